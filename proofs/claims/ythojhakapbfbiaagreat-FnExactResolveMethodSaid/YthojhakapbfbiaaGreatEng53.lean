/- The contracts of the laws' own helpers that own or turn memory. Written by a program of mine (famO.py). -/
import Derived.Test.YthojhakapbfbiaaGreatMarkR
import Derived.Test.YthojhakapbfbiaaGreatEng48
import Derived.Lib.SliceRun
set_option linter.unusedVariables false
set_option linter.unusedSimpArgs false
namespace Go.Proofs.YthojhakapbfbiaaGreat
open Go Go.Eng
attribute [local irreducible] V VO VQ VY Quiet SpecP SpecO MSpec
set_option maxRecDepth 8000 in
set_option maxHeartbeats 8000000 in
theorem heldIntS_step {us : List U} (hl : us.length ≤ big) (hz : ∀ a ∈ us, wt (.int) a) : PHe 66 (.sl 1 us) := by
  intro k0 hk0 hk1
  have hlf : (U.sl 1 us).lf = U.lfs us := rfl
  rw [hlf] at hk1
  rw [big_eq] at hl
  show SpecP _ _ [.d (.sl 1 (U.mks us k0).1), .d (.i .i64 k0)] [.i .i64 (U.mks us k0).2]
  obtain ⟨ms, hms⟩ : ∃ ms, (U.mks us k0).1 = ms := ⟨_, rfl⟩
  have hml : ms.length = us.length := by rw [← hms, mks_len]
  have hel : ∀ (i : Nat) (a : U), us[i]? = some a → ms[i]? = some (a.mk (U.mks (us.take i) k0).2).1 := fun i a h => by rw [← hms]; exact mks_get h k0
  rw [hms]
  refine SpecP_intro Tryz.func66 rfl (by kernel_rfl) rfl fun A _ => ?_
  refine gGO ?_
  refine V_block ?_
  refine V_loop (α := Nat)
    (fun i => ⟨[(0, .d (.sl 1 ms)), (1, .d (.i .i64 (U.mks (us.take i) k0).2)), (5, .d (.i .i64 i))], [], Tryz.f66.ntmps⟩)
    (fun i => i ≤ us.length)
    (fun i => us.length - i) 0 ⟨rfl, ⟨⟨rfl, rfl⟩, ⟨rfl, rfl⟩, ⟨rfl, rfl⟩, trivial⟩, ⟨[], rfl⟩, rfl⟩ (by simp) ?_
  intro i hi
  refine gGO ?_
  (first | refine V_cond rfl (fun hc2 => ?_) (fun hc2 => ?_) | refine V_seq (V_cond rfl (fun hc2 => ?_) (fun hc2 => ?_)))
  · refine V_skip ?_
    simp only [decide_eq_true_eq] at hc2
    have hil : i < us.length := by omega
    obtain ⟨a, hget⟩ : ∃ a, us[i]? = some a := ⟨_, List.getElem?_eq_getElem hil⟩
    have hmem := List.mem_of_getElem? hget
    have hnext := (mks_next hget k0).2
    have hmid := lfs_mid hget
    have hsnd := mks_snd (us.take i) k0
    have hge := hel i a hget
    obtain ⟨a, rfl, _⟩ := inv_int (hz a hmem)
    have hlfa : ((.i .i64 a) : U).lf = 0 + 1 := by simp [U.lf, U.lfs]
    rw [hlfa] at hmid
    have hkp : 0 < (U.mks (us.take i) k0).2 := by omega
    have hkb : (U.mks (us.take i) k0).2 + (0 + 1 : Nat) ≤ 4611686018427387904 := by omega
    clear hsnd hlfa hmid
    generalize (U.mks (us.take i) k0).2 = kk at hnext hkp hkb hge ⊢
    have hge : ms[i]? = some (.i .i64 (kk)) := hge
    refine V_seq (V_block ?_)
    repeat (first | refine gGP ?_ | refine qO (Q_index rfl rfl TE.h TI.h (by omega) hge) ?_ | refine qQ (Q_index rfl rfl TE.h TI.h (by omega) hge) ?_)
    (first | refine V_cond rfl (fun hc3 => ?_) (fun hc3 => ?_) | refine V_seq (V_cond rfl (fun hc3 => ?_) (fun hc3 => ?_)))
    · simp at hc3
    refine V_skip ?_
    clear hc3
    refine gGO ?_
    refine ⟨i + 1, by omega, by omega, ⟨rfl, ⟨⟨rfl, rfl⟩, ⟨?_, rfl⟩, ⟨rfl, rfl⟩, trivial⟩, ⟨[], rfl⟩, rfl⟩⟩
    rw [hnext]
    rfl
  · refine V_exit ?_
    simp only [decide_eq_false_iff_not] at hc2
    have hkl : i = us.length := by omega
    subst hkl
    show V _ _ _ _ _
    refine gGO ?_
    refine V_ret ?_
    refine ⟨trivial, ⟨_, rfl, ?_⟩, trivial⟩
    rw [List.take_length]
    exact rfl
theorem heldIntS_all {us : List U} (h : us.length ≤ big ∧ ∀ x ∈ us, wt .int x) : PHe 66 (.sl 1 us) := heldIntS_step h.1 h.2
set_option maxRecDepth 8000 in
set_option maxHeartbeats 8000000 in
theorem heldDictionaryS_step {us : List U} (hl : us.length ≤ big) (hz : ∀ a ∈ us, wt (.st 26) a) (ih0 : ∀ (a_0 : Int) (a_1_0 : Int) (a_1_1 : Int) (a_2 : List U) (a_3 : List U), .st [.i .i64 a_0, .st [.i .i64 a_1_0, .i .i64 a_1_1], .sl 1 a_2, .sl 5 a_3] ∈ us → PHe 66 (.sl 1 a_2)) (ih1 : ∀ (a_0 : Int) (a_1_0 : Int) (a_1_1 : Int) (a_2 : List U) (a_3 : List U), .st [.i .i64 a_0, .st [.i .i64 a_1_0, .i .i64 a_1_1], .sl 1 a_2, .sl 5 a_3] ∈ us → PHe 24 (.sl 5 a_3)) : PHe 24 (.sl 5 us) := by
  intro k0 hk0 hk1
  have hlf : (U.sl 5 us).lf = U.lfs us := rfl
  rw [hlf] at hk1
  rw [big_eq] at hl
  show SpecP _ _ [.d (.sl 5 (U.mks us k0).1), .d (.i .i64 k0)] [.i .i64 (U.mks us k0).2]
  obtain ⟨ms, hms⟩ : ∃ ms, (U.mks us k0).1 = ms := ⟨_, rfl⟩
  have hml : ms.length = us.length := by rw [← hms, mks_len]
  have hel : ∀ (i : Nat) (a : U), us[i]? = some a → ms[i]? = some (a.mk (U.mks (us.take i) k0).2).1 := fun i a h => by rw [← hms]; exact mks_get h k0
  rw [hms]
  refine SpecP_intro Tryz.func24 rfl (by kernel_rfl) rfl fun A _ => ?_
  refine gGO ?_
  refine V_block ?_
  refine V_loop (α := Nat)
    (fun i => ⟨[(0, .d (.sl 5 ms)), (1, .d (.i .i64 (U.mks (us.take i) k0).2)), (5, .d (.i .i64 i))], [], Tryz.f24.ntmps⟩)
    (fun i => i ≤ us.length)
    (fun i => us.length - i) 0 ⟨rfl, ⟨⟨rfl, rfl⟩, ⟨rfl, rfl⟩, ⟨rfl, rfl⟩, trivial⟩, ⟨[], rfl⟩, rfl⟩ (by simp) ?_
  intro i hi
  refine gGO ?_
  (first | refine V_cond rfl (fun hc2 => ?_) (fun hc2 => ?_) | refine V_seq (V_cond rfl (fun hc2 => ?_) (fun hc2 => ?_)))
  · refine V_skip ?_
    simp only [decide_eq_true_eq] at hc2
    have hil : i < us.length := by omega
    obtain ⟨a, hget⟩ : ∃ a, us[i]? = some a := ⟨_, List.getElem?_eq_getElem hil⟩
    have hmem := List.mem_of_getElem? hget
    have hnext := (mks_next hget k0).2
    have hmid := lfs_mid hget
    have hsnd := mks_snd (us.take i) k0
    have hge := hel i a hget
    have hwa := hz a hmem
    obtain ⟨a_0, a_1, a_2, a_3, rfl, hwa_0, hwa_1, hwa_2, hwa_3⟩ := inv_Dictionary hwa
    obtain ⟨a_1_0, a_1_1, rfl, hwa_1_0, hwa_1_1⟩ := inv_InstanceRef hwa_1
    have hlfa : ((.st [.i .i64 a_0, .st [.i .i64 a_1_0, .i .i64 a_1_1], .sl 1 a_2, .sl 5 a_3]) : U).lf = 0 + 1 + 1 + 1 + U.lfs a_2 + U.lfs a_3 := by simp [U.lf, U.lfs] <;> omega
    rw [hlfa] at hmid
    have hkp : 0 < (U.mks (us.take i) k0).2 := by omega
    have hkb : (U.mks (us.take i) k0).2 + (0 + 1 + 1 + 1 + U.lfs a_2 + U.lfs a_3 : Nat) ≤ 4611686018427387904 := by omega
    clear hsnd hlfa hmid
    generalize (U.mks (us.take i) k0).2 = kk at hnext hkp hkb hge ⊢
    have hge : ms[i]? = some (.st [.i .i64 (kk), .st [.i .i64 (kk + 1), .i .i64 (kk + 1 + 1)], .sl 1 (U.mks a_2 (kk + 1 + 1 + 1)).1, .sl 5 (U.mks a_3 ((U.mks a_2 (kk + 1 + 1 + 1)).2)).1]) := hge
    refine V_seq (V_block ?_)
    repeat (first | refine gGP ?_ | refine qO (Q_index rfl rfl TE.h TI.h (by omega) hge) ?_ | refine qQ (Q_index rfl rfl TE.h TI.h (by omega) hge) ?_)
    (first | refine V_cond rfl (fun hc3 => ?_) (fun hc3 => ?_) | refine V_seq (V_cond rfl (fun hc3 => ?_) (fun hc3 => ?_)))
    · simp at hc3
    refine V_skip ?_
    clear hc3
    repeat (first | refine gGP ?_ | refine qO (Q_index rfl rfl TE.h TI.h (by omega) hge) ?_ | refine qQ (Q_index rfl rfl TE.h TI.h (by omega) hge) ?_)
    (first | refine V_cond rfl (fun hc3 => ?_) (fun hc3 => ?_) | refine V_seq (V_cond rfl (fun hc3 => ?_) (fun hc3 => ?_)))
    · simp at hc3
    refine V_skip ?_
    clear hc3
    repeat (first | refine gGP ?_ | refine qO (Q_index rfl rfl TE.h TI.h (by omega) hge) ?_ | refine qQ (Q_index rfl rfl TE.h TI.h (by omega) hge) ?_)
    (first | refine V_cond rfl (fun hc3 => ?_) (fun hc3 => ?_) | refine V_seq (V_cond rfl (fun hc3 => ?_) (fun hc3 => ?_)))
    · simp at hc3
    refine V_skip ?_
    clear hc3
    have hm3 := ih0 a_0 a_1_0 a_1_1 a_2 a_3 hmem (kk + 1 + 1 + 1) (by omega) (by simp only [U.lf]; omega)
    change SpecP _ _ [.d (.sl 1 (U.mks a_2 (kk + 1 + 1 + 1)).1), _] [.i .i64 (U.mks a_2 (kk + 1 + 1 + 1)).2] at hm3
    have hs3 := mks_snd a_2 (kk + 1 + 1 + 1)
    repeat (first | refine gGP ?_ | refine qO (Q_index rfl rfl TE.h TI.h (by omega) hge) ?_ | refine qQ (Q_index rfl rfl TE.h TI.h (by omega) hge) ?_ | refine qO (Q_call rfl hm3 vA) ?_ | refine qQ (Q_call rfl hm3 vA) ?_)
    (first | refine V_cond rfl (fun hc3 => ?_) (fun hc3 => ?_) | refine V_seq (V_cond rfl (fun hc3 => ?_) (fun hc3 => ?_)))
    · exfalso; simp only [decide_eq_true_eq] at hc3; change (U.mks a_2 (kk + 1 + 1 + 1)).2 < 0 at hc3; omega
    refine V_skip ?_
    clear hc3
    have hm4 := ih1 a_0 a_1_0 a_1_1 a_2 a_3 hmem ((U.mks a_2 (kk + 1 + 1 + 1)).2) (by omega) (by simp only [U.lf]; omega)
    change SpecP _ _ [.d (.sl 5 (U.mks a_3 ((U.mks a_2 (kk + 1 + 1 + 1)).2)).1), _] [.i .i64 (U.mks a_3 ((U.mks a_2 (kk + 1 + 1 + 1)).2)).2] at hm4
    have hs4 := mks_snd a_3 ((U.mks a_2 (kk + 1 + 1 + 1)).2)
    repeat (first | refine gGP ?_ | refine qO (Q_index rfl rfl TE.h TI.h (by omega) hge) ?_ | refine qQ (Q_index rfl rfl TE.h TI.h (by omega) hge) ?_ | refine qO (Q_call rfl hm4 vA) ?_ | refine qQ (Q_call rfl hm4 vA) ?_)
    (first | refine V_cond rfl (fun hc3 => ?_) (fun hc3 => ?_) | refine V_seq (V_cond rfl (fun hc3 => ?_) (fun hc3 => ?_)))
    · exfalso; simp only [decide_eq_true_eq] at hc3; change (U.mks a_3 ((U.mks a_2 (kk + 1 + 1 + 1)).2)).2 < 0 at hc3; omega
    refine V_skip ?_
    clear hc3
    refine gGO ?_
    refine ⟨i + 1, by omega, by omega, ⟨rfl, ⟨⟨rfl, rfl⟩, ⟨?_, rfl⟩, ⟨rfl, rfl⟩, trivial⟩, ⟨[], rfl⟩, rfl⟩⟩
    rw [hnext]
    rfl
  · refine V_exit ?_
    simp only [decide_eq_false_iff_not] at hc2
    have hkl : i = us.length := by omega
    subst hkl
    show V _ _ _ _ _
    refine gGO ?_
    refine V_ret ?_
    refine ⟨trivial, ⟨_, rfl, ?_⟩, trivial⟩
    rw [List.take_length]
    exact rfl
theorem heldDictionary_grp (u : U) : (∀ us, u = .sl 5 us → us.length ≤ big → (∀ x ∈ us, wt (.st 26) x) → PHe 24 u) := by
  refine U.ind (M := fun u => (∀ us, u = .sl 5 us → us.length ≤ big → (∀ x ∈ us, wt (.st 26) x) → PHe 24 u)) (fun u ih => ?_) u
  refine ?_
  · rintro us rfl hl hz
    exact heldDictionaryS_step hl hz (fun a_0 a_1_0 a_1_1 a_2 a_3 ha => by obtain ⟨_, _, _, _, hx_a, qa_0, qa_1, qa_2, qa_3⟩ := inv_Dictionary (hz _ ha); cases hx_a; obtain ⟨_, _, hx_a_1, qa_1_0, qa_1_1⟩ := inv_InstanceRef qa_1; cases hx_a_1; exact heldIntS_all qa_2) (fun a_0 a_1_0 a_1_1 a_2 a_3 ha => by obtain ⟨_, _, _, _, hx_a, qa_0, qa_1, qa_2, qa_3⟩ := inv_Dictionary (hz _ ha); cases hx_a; obtain ⟨_, _, hx_a_1, qa_1_0, qa_1_1⟩ := inv_InstanceRef qa_1; cases hx_a_1; exact (ih (.sl 5 a_3) (by have := nn_of_mem ha; simp only [U.nn, U.nns] at this ⊢; omega)) a_3 rfl qa_3.1 qa_3.2)
theorem heldDictionaryS_all {us : List U} (h : us.length ≤ big ∧ ∀ x ∈ us, wt (.st 26) x) : PHe 24 (.sl 5 us) := (heldDictionary_grp (.sl 5 us)) us rfl h.1 h.2
end Go.Proofs.YthojhakapbfbiaaGreat
set_option linter.unusedVariables false
set_option linter.unusedSimpArgs false
namespace Go.Eng
open Go Go.RowKit
section
variable {P : Program} {A : Amb} {σ : St} {dst : Option Nat} {ty T T' : TypeId} {pos : String} {af : Array Edge} {g : Option (Nat × Bool)} {x y : Operand}
end
end Go.Eng
set_option linter.unusedVariables false
set_option linter.unusedSimpArgs false
namespace Go.Eng
open Go Go.RowKit
section
variable {P : Program} {A : Amb} {σ : St} {K : St → Prop} {Q : Exit → St → Prop}
variable {ops : Array Oper} {rest : List Oper} {t : Nat} {ty : TypeId} {pos : String} {af : Array Edge} {x y : Operand} {sv : SV} {dst : Option Nat} {g : Option (Nat × Bool)}
/-- A slice of data is compared with nil: if it is, it is empty. -/
theorem VO_eqnil {T T' e : TypeId} {z : Nat} {us : List U} {fr : List (Nat × SV)} {L : List LO} {N : Nat} [TE P T e] (h : ∀ b : Bool, (b = true → us = []) → VO P A ops rest ⟨(t, .d (.b b)) :: fr, L, N⟩ K) (hx : (St.mk fr L N).ev x = .d (.sl z us) := by rfl) (ht : Nat.blt t N = true := by rfl) :
    VO P A ops (⟨some t, .binOp .eql T x (.const (.slice none 0 0)) T', ty, pos, af, none⟩ :: rest) ⟨fr, L, N⟩ K := by
  intro R hR a w ⟨S, env, hH, hf, hN, hd⟩
  have h1 := Realz.ev hf hH x
  rw [hx, SVr.slice] at h1
  obtain ⟨_, base, cap, h1, h2⟩ := h1
  refine wpList_plain rfl fun K' hK' => ?_
  have hT : P.underlying T = some (.slice e) := tyE_und TE.h
  have hrun : (execOp a.eval ⟨some t, .binOp .eql T x (.const (.slice none 0 0)) T', ty, pos, af, none⟩).run P w = .ok (.value (.bool base.isNone)) w := by
    have h0 : a.eval (.const (.slice none 0 0)) = .slice none 0 0 := rfl
    simp [execOp, h1, h0, eqGuard, Lib.run_eql_slice_nil w T e base us.length (us.length + cap) 0 0 hT]
  unfold Oper.wp
  rw [hrun]
  refine hK' _ _ (h base.isNone (fun hb => ?_) R hR _ _ (realz_put (σ := ⟨fr, L, N⟩) hf hN hd ht hH Carry.refl (SVr.bool.2 rfl)))
  rcases h2 with h2 | ⟨b, off, rfl, _⟩
  · exact h2
  · cases hb
end
/-! ### elements of owned arrays in regions that draw their order -/
section
variable {P : Program} {A : Amb} {ops : Array Oper} {K : St → Prop} {r : List (Nat × Bool)} {pf : PF} {fr : List (Nat × SV)} {L L1 L' : List LO} {N i t m : Nat}
variable {ty : TypeId} {pos : String} {af : Array Edge} {x y : Operand} {T : TypeId}
end
end Go.Eng
set_option linter.unusedVariables false
set_option linter.unusedSimpArgs false
namespace Go.Eng
open Go Go.RowKit
section
variable {P : Program} {σ : St} {dst : Option Nat} {ty T : TypeId} {pos : String} {af : Array Edge} {g : Option (Nat × Bool)} {x y h : Operand}
end
section
variable {P : Program} {A : Amb} {ops : Array Oper} {K : St → Prop} {r : List (Nat × Bool)} {pf : PF} {fr : List (Nat × SV)} {L L1 L' : List LO} {N i t m : Nat}
variable {ty : TypeId} {pos : String} {af : Array Edge} {x y : Operand} {T : TypeId}
end
end Go.Eng
