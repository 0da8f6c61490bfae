/- Fp5. Written by a program of mine (aw.py). -/
import Derived.Test.YthojhakapbfbiaaGreatFacts
import Derived.Test.YthojhakapbfbiaaGreatFp3
import Derived.Test.YthojhakapbfbiaaGreatFp4
set_option linter.unusedVariables false
set_option linter.unusedSimpArgs false
set_option linter.unusedSectionVars false
namespace Go.Proofs.YthojhakapbfbiaaGreat
open Go Go.Eng
attribute [local irreducible] V VO VQ VY Quiet QR SpecP SpecO MSpec Rng PostP PostO
def b_iFirst (a0 : TProgram) (a1 : Int) : Option (TProgram) :=
gd (0 ≤ (if 0 < (if (a0.packages.length : Int) < a1 then (a0.packages.length : Int) else a1) then (if (a0.packages.length : Int) < a1 then (a0.packages.length : Int) else a1) else 0) ∧ (if 0 < (if (a0.packages.length : Int) < a1 then (a0.packages.length : Int) else a1) then (if (a0.packages.length : Int) < a1 then (a0.packages.length : Int) else a1) else 0) ≤ (a0.packages.length : Int)) (
gd (W (.sl 6 (ePackages (a0.packages.take (Int.toNat (if 0 < (if (a0.packages.length : Int) < a1 then (a0.packages.length : Int) else a1) then (if (a0.packages.length : Int) < a1 then (a0.packages.length : Int) else a1) else 0))))) ≤ 4294967296) (lt_ (idX (a0.packages.take (Int.toNat (if 0 < (if (a0.packages.length : Int) < a1 then (a0.packages.length : Int) else a1) then (if (a0.packages.length : Int) < a1 then (a0.packages.length : Int) else a1) else 0)))) fun x3 =>
(some (TProgram.mk x3))))
set_option maxHeartbeats 4000000 in
theorem w_iFirst (a0 : TProgram) (a1 : Int) {r : TProgram} (h : b_iFirst a0 a1 = some r) : SpecO Tryz.prog 8 [.d (eProgram a0), .d (.i .i64 a1)] [128] [eProgram r] := by
  obtain ⟨a0_0⟩ := a0
  unfold b_iFirst at h
  refine SpecO_intro Tryz.func8 rfl (by kernel_rfl) rfl (by simp) fun A _ => ?_
  refine goL ?_
  refine VO_r (QR_min) ?_
  refine VO_r (QR_max) ?_
  obtain ⟨g1, h⟩ := gd_s h
  refine VO_r (QR_pre g1) ?_
  obtain ⟨g2, h⟩ := gd_s h
  obtain ⟨x3, hx3, h⟩ := lt_x h
  have sx3 := t_iPkgs (a0_0.take (Int.toNat (if 0 < (if (a0_0.length : Int) < a1 then (a0_0.length : Int) else a1) then (if (a0_0.length : Int) < a1 then (a0_0.length : Int) else a1) else 0))) g2
  rw [hx3] at sx3
  refine VO_co (sx3) ?_
  refine VO_k (Q_build TBd.h TZ.h rfl (by repeat constructor)) ?_
  refine goL ?_
  refine V_ret ?_
  replace h := Option.some.inj h
  subst h
  exact R_rO
def b_sMax (a0 : Int) (a1 : Int) : Int :=
(cnd (decide (a0 > a1)) (
a0) (
a1))
set_option maxHeartbeats 4000000 in
theorem w_sMax (a0 : Int) (a1 : Int) : SpecP Tryz.prog 27 [.d (.i .i64 a0), .d (.i .i64 a1)] [.i .i64 (b_sMax a0 a1)] := by
  obtain ⟨r, h⟩ : ∃ r, b_sMax a0 a1 = r := ⟨_, rfl⟩
  rw [h]
  unfold b_sMax at h
  refine SpecP_intro Tryz.func27 rfl (by kernel_rfl) rfl fun A _ => ?_
  refine goL ?_
  refine V_cb (fun c1 => ?_) (fun c1 => ?_)
  · replace h := cnd_t c1 h
    refine goL ?_
    refine V_ret ?_
    subst h
    exact R_rP
  · replace h := cnd_f c1 h
    refine V_skip ?_
    show V _ _ _ _ _
    refine goL ?_
    refine V_ret ?_
    subst h
    exact R_rP
def b_sMin (a0 : Int) (a1 : Int) : Int :=
(cnd (decide (a0 < a1)) (
a0) (
a1))
set_option maxHeartbeats 4000000 in
theorem w_sMin (a0 : Int) (a1 : Int) : SpecP Tryz.prog 28 [.d (.i .i64 a0), .d (.i .i64 a1)] [.i .i64 (b_sMin a0 a1)] := by
  obtain ⟨r, h⟩ : ∃ r, b_sMin a0 a1 = r := ⟨_, rfl⟩
  rw [h]
  unfold b_sMin at h
  refine SpecP_intro Tryz.func28 rfl (by kernel_rfl) rfl fun A _ => ?_
  refine goL ?_
  refine V_cb (fun c1 => ?_) (fun c1 => ?_)
  · replace h := cnd_t c1 h
    refine goL ?_
    refine V_ret ?_
    subst h
    exact R_rP
  · replace h := cnd_f c1 h
    refine V_skip ?_
    show V _ _ _ _ _
    refine goL ?_
    refine V_ret ?_
    subst h
    exact R_rP
def b_sFirst (a0 : TProgram) (a1 : Int) : Option (TProgram) :=
gd (0 ≤ (b_sMax 0 (b_sMin a1 (a0.packages.length : Int))) ∧ (b_sMax 0 (b_sMin a1 (a0.packages.length : Int))) ≤ (a0.packages.length : Int)) (
gd (W (eProgram (TProgram.mk (a0.packages.take (Int.toNat (b_sMax 0 (b_sMin a1 (a0.packages.length : Int))))))) ≤ 4294967296) (lt_ (idX (TProgram.mk (a0.packages.take (Int.toNat (b_sMax 0 (b_sMin a1 (a0.packages.length : Int))))))) fun x3 =>
(some x3)))
set_option maxHeartbeats 4000000 in
theorem w_sFirst (a0 : TProgram) (a1 : Int) {r : TProgram} (h : b_sFirst a0 a1 = some r) : SpecO Tryz.prog 6 [.d (eProgram a0), .d (.i .i64 a1)] [128] [eProgram r] := by
  obtain ⟨a0_0⟩ := a0
  unfold b_sFirst at h
  refine SpecO_intro Tryz.func6 rfl (by kernel_rfl) rfl (by simp) fun A _ => ?_
  refine goNL ?_
  refine V_seq_drawX (P := Tryz.prog) Mix.h [(0, true), (1, true), (2, true), (3, true), (4, true), (5, true), (6, true), (7, true), (8, true), (9, true), (10, false), (11, false)] (by kernel_rfl) ?_
  refine goZ ?_
  refine VY_ri rfl (QR_call (w_sMin a1 (a0_0.length : Int))) ?_
  refine VY_ri rfl (QR_call (w_sMax 0 (b_sMin a1 (a0_0.length : Int)))) ?_
  obtain ⟨g1, h⟩ := gd_s h
  refine VY_ri rfl (QR_pre g1) ?_
  refine goZ ?_
  obtain ⟨g2, h⟩ := gd_s h
  obtain ⟨x3, hx3, h⟩ := lt_x h
  obtain ⟨x3_0⟩ := x3
  have sx3 := t_sProg (TProgram.mk (a0_0.take (Int.toNat (b_sMax 0 (b_sMin a1 (a0_0.length : Int)))))) g2
  rw [hx3] at sx3
  refine VY_co (sx3) ?_
  refine goZ ?_
  refine VY_nil ?_
  refine goL ?_
  refine V_ret ?_
  replace h := Option.some.inj h
  subst h
  exact R_rO
/-! ### FirstPackages, by hand -/
def nP (s : TProgram) (n : Int) : Int := b_sMax 0 (b_sMin n (s.packages.length : Int))
theorem cnd_if {α : Type} (p : Prop) [Decidable p] (x y : α) : cnd (decide p) x y = if p then x else y := by
  by_cases h : p
  · rw [decide_eq_true h, if_pos h]; rfl
  · rw [decide_eq_false h, if_neg h]; rfl
theorem nP_ok (s : TProgram) (n : Int) : 0 ≤ nP s n ∧ nP s n ≤ (s.packages.length : Int) := by
  have h := Int.natCast_nonneg s.packages.length
  unfold nP b_sMax b_sMin
  simp only [cnd_if]
  split <;> split <;> omega
theorem nP_i (s : TProgram) (n : Int) : (if 0 < (if (s.packages.length : Int) < n then (s.packages.length : Int) else n) then (if (s.packages.length : Int) < n then (s.packages.length : Int) else n) else 0) = nP s n := by
  have h := Int.natCast_nonneg s.packages.length
  unfold nP b_sMax b_sMin
  simp only [cnd_if]
  split <;> split <;> split <;> split <;> omega
def fP (s : TProgram) (n : Int) : TProgram := ⟨s.packages.take (Int.toNat (nP s n))⟩
theorem Ws_take : ∀ (us : List U) (k : Nat), Ws (us.take k) ≤ Ws us
  | us, 0 => by simp [Ws]
  | [], k + 1 => by simp
  | u :: us, k + 1 => by
    have := Ws_take us k
    simp only [List.take_succ_cons, Ws]
    omega
theorem fP_W (s : TProgram) (n : Int) : W (eProgram (fP s n)) ≤ W (eProgram s) := by
  obtain ⟨ps⟩ := s
  simp only [fP, eProgram, W, Ws, ePackages_ln, List.length_take]
  have h1 : ePackages (ps.take (Int.toNat (nP ⟨ps⟩ n))) = (ePackages ps).take (Int.toNat (nP ⟨ps⟩ n)) := by rw [show ∀ l, ePackages l = l.map ePackage from Enc.h, show ∀ l, ePackages l = l.map ePackage from Enc.h, List.map_take]
  have h2 := Ws_take (ePackages ps) (Int.toNat (nP ⟨ps⟩ n))
  rw [h1]
  omega
theorem iFirst_eq (s : TProgram) (n : Int) (h : W (eProgram s) ≤ 4294967296) : b_iFirst s n = some (fP s n) := by
  have h1 := fP_W s n
  unfold b_iFirst
  simp only [nP_i]
  rw [gd_eq (nP_ok s n), gd_eq (by
    have : W (eProgram (fP s n)) ≤ 4294967296 := by omega
    simp only [fP, eProgram, W, Ws] at this
    simp only [W]
    omega)]
  rfl
theorem sFirst_eq (s : TProgram) (n : Int) (h : W (eProgram s) ≤ 4294967296) : b_sFirst s n = some (fP s n) := by
  have h1 := fP_W s n
  have h2 : W (eProgram (fP s n)) ≤ 4294967296 := by omega
  unfold b_sFirst
  show gd (0 ≤ nP s n ∧ nP s n ≤ (s.packages.length : Int)) (gd (W (eProgram (fP s n)) ≤ 4294967296) (lt_ (idX (fP s n)) fun x3 => some x3)) = some (fP s n)
  rw [gd_eq (nP_ok s n), gd_eq h2]
  rfl
theorem bothFp {u : U} {n : Int} (h : wt (.st 15) u) : ∃ r0, wt (.st 15) r0 ∧ (W u ≤ 1048576 → SpecP Tryz.prog 6 [.d u, .d (.i .i64 n)] [r0] ∧ SpecO Tryz.prog 8 [.d u, .d (.i .i64 n)] [128] [r0] ∧ W r0 ≤ 1048576) := by
  obtain ⟨s, rfl⟩ := ofProgram u h
  refine ⟨eProgram (fP s n), ?_, fun hw => ⟨(w_sFirst s n (sFirst_eq s n (by omega))).p, w_iFirst s n (iFirst_eq s n (by omega)), Nat.le_trans (fP_W s n) hw⟩⟩
  obtain ⟨ps⟩ := s
  have hfl : flds 15 = [.sl (.st 14)] := rfl
  have h1 : ePackages (ps.take (Int.toNat (nP ⟨ps⟩ n))) = (ePackages ps).take (Int.toNat (nP ⟨ps⟩ n)) := by rw [show ∀ l, ePackages l = l.map ePackage from Enc.h, show ∀ l, ePackages l = l.map ePackage from Enc.h, List.map_take]
  simp only [eProgram, wt, hfl, wts, wta_iff] at h
  obtain ⟨⟨q1, q2, q3⟩, _⟩ := h
  simp only [fP, eProgram, wt, hfl, wts, wta_iff, h1]
  exact ⟨⟨q1, by rw [List.length_take]; omega, fun x hx => q3 x (List.mem_of_mem_take hx)⟩, trivial⟩
end Go.Proofs.YthojhakapbfbiaaGreat
