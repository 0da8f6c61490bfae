/- The contracts of the laws' own helpers that own or turn memory. Written by a program of mine (famO.py). -/
import Derived.Test.YthojhakapbfbiaaGreatOwnP
import Derived.Test.YthojhakapbfbiaaGreatEng53
import Derived.Test.YthojhakapbfbiaaGreatMarkPa
set_option linter.unusedVariables false
set_option linter.unusedSimpArgs false
namespace Go.Proofs.YthojhakapbfbiaaGreat
open Go Go.Eng
attribute [local irreducible] V VO VQ VY Quiet SpecP SpecO MSpec
theorem markPackage_grp (u : U) : (∀ us, u = .sl 6 us → us.length ≤ big → (∀ x ∈ us, wt (.st 14) x) → PMk 32 u) := by
  refine U.ind (M := fun u => (∀ us, u = .sl 6 us → us.length ≤ big → (∀ x ∈ us, wt (.st 14) x) → PMk 32 u)) (fun u ih => ?_) u
  refine ?_
  · rintro us rfl hl hz
    exact markPackageS_step hl hz (fun a_0 a_1 a_2 a_3 a_4 a_5 ha => by obtain ⟨_, _, _, _, _, _, hx_a, qa_0, qa_1, qa_2, qa_3, qa_4, qa_5⟩ := inv_Package (hz _ ha); cases hx_a; exact markStringS_all qa_1) (fun a_0 a_1 a_2 a_3 a_4 a_5 ha => by obtain ⟨_, _, _, _, _, _, hx_a, qa_0, qa_1, qa_2, qa_3, qa_4, qa_5⟩ := inv_Package (hz _ ha); cases hx_a; exact markTraitS_all qa_2) (fun a_0 a_1 a_2 a_3 a_4 a_5 ha => by obtain ⟨_, _, _, _, _, _, hx_a, qa_0, qa_1, qa_2, qa_3, qa_4, qa_5⟩ := inv_Package (hz _ ha); cases hx_a; exact markDataTypeS_all qa_3) (fun a_0 a_1 a_2 a_3 a_4 a_5 ha => by obtain ⟨_, _, _, _, _, _, hx_a, qa_0, qa_1, qa_2, qa_3, qa_4, qa_5⟩ := inv_Package (hz _ ha); cases hx_a; exact markInstanceS_all qa_4) (fun a_0 a_1 a_2 a_3 a_4 a_5 ha => by obtain ⟨_, _, _, _, _, _, hx_a, qa_0, qa_1, qa_2, qa_3, qa_4, qa_5⟩ := inv_Package (hz _ ha); cases hx_a; exact markFunctionS_all qa_5)
theorem markPackageS_all {us : List U} (h : us.length ≤ big ∧ ∀ x ∈ us, wt (.st 14) x) : PMk 32 (.sl 6 us) := (markPackage_grp (.sl 6 us)) us rfl h.1 h.2
set_option maxRecDepth 8000 in
set_option maxHeartbeats 8000000 in
theorem markProgram_step {f0 : List U} (h0 : PMk 32 (.sl 6 f0)) : PMk 10 (.st [.sl 6 f0]) := by
  intro k0 hk0 hk1
  have hlf : ((.st [.sl 6 f0]) : U).lf = 0 + U.lfs f0 := by simp [U.lf, U.lfs] <;> omega
  rw [hlf] at hk1
  show MSpec _ _ _ _ (.st [.sl 6 (U.mks f0 (k0)).1]) ((U.mks f0 (k0)).2)
  refine MSpec_intro (fun hv e => [.ownp (hv 0) (e 0) 6 f0]) (fun hv e => [.ownp (hv 0) (e 0) 6 (U.mks f0 (k0)).1]) Tryz.func10 rfl (by kernel_rfl) rfl rfl (fun _ _ => by repeat constructor) (fun _ _ => by repeat constructor) rfl rfl fun A hv e _ => ?_
  have hm0 := h0 (k0) (by omega) (by simp only [U.lf, U.lfs]; omega)
  have hs_f0 := mks_snd f0 (k0)
  refine gGO ?_
  refine VO_callM rfl hm0 rfl rfl (by repeat (first | exact rfl | constructor)) rfl (by repeat constructor) rfl ?_
  refine gGO ?_
  refine V_ret ?_
  exact ⟨trivial, rfl, _, rfl⟩
theorem markProgram_all {u : U} (h : wt (.st 15) u) : PMk 10 u := by
  obtain ⟨f0, rfl, p0⟩ := inv_Program h
  exact markProgram_step (markPackageS_all p0)
set_option maxRecDepth 8000 in
set_option maxHeartbeats 8000000 in
theorem heldTypeS_step {us : List U} (hl : us.length ≤ big) (hz : ∀ a ∈ us, wt (.st 1) a) (ih0 : ∀ (a_0 : Int) (a_1 : List UInt8) (a_2 : List U), .st [.i .i64 a_0, .s a_1, .sl 3 a_2] ∈ us → PHe 133 (.sl 3 a_2)) : PHe 133 (.sl 3 us) := by
  intro k0 hk0 hk1
  have hlf : (U.sl 3 us).lf = U.lfs us := rfl
  rw [hlf] at hk1
  rw [big_eq] at hl
  show SpecP _ _ [.d (.sl 3 (U.mks us k0).1), .d (.i .i64 k0)] [.i .i64 (U.mks us k0).2]
  obtain ⟨ms, hms⟩ : ∃ ms, (U.mks us k0).1 = ms := ⟨_, rfl⟩
  have hml : ms.length = us.length := by rw [← hms, mks_len]
  have hel : ∀ (i : Nat) (a : U), us[i]? = some a → ms[i]? = some (a.mk (U.mks (us.take i) k0).2).1 := fun i a h => by rw [← hms]; exact mks_get h k0
  rw [hms]
  refine SpecP_intro Tryz.func133 rfl (by kernel_rfl) rfl fun A _ => ?_
  refine gGO ?_
  refine V_block ?_
  refine V_loop (α := Nat)
    (fun i => ⟨[(0, .d (.sl 3 ms)), (1, .d (.i .i64 (U.mks (us.take i) k0).2)), (5, .d (.i .i64 i))], [], Tryz.f133.ntmps⟩)
    (fun i => i ≤ us.length)
    (fun i => us.length - i) 0 ⟨rfl, ⟨⟨rfl, rfl⟩, ⟨rfl, rfl⟩, ⟨rfl, rfl⟩, trivial⟩, ⟨[], rfl⟩, rfl⟩ (by simp) ?_
  intro i hi
  refine gGO ?_
  (first | refine V_cond rfl (fun hc2 => ?_) (fun hc2 => ?_) | refine V_seq (V_cond rfl (fun hc2 => ?_) (fun hc2 => ?_)))
  · refine V_skip ?_
    simp only [decide_eq_true_eq] at hc2
    have hil : i < us.length := by omega
    obtain ⟨a, hget⟩ : ∃ a, us[i]? = some a := ⟨_, List.getElem?_eq_getElem hil⟩
    have hmem := List.mem_of_getElem? hget
    have hnext := (mks_next hget k0).2
    have hmid := lfs_mid hget
    have hsnd := mks_snd (us.take i) k0
    have hge := hel i a hget
    have hwa := hz a hmem
    obtain ⟨a_0, a_1, a_2, rfl, hwa_0, hwa_1, hwa_2⟩ := inv_Type hwa
    have hlfa : ((.st [.i .i64 a_0, .s a_1, .sl 3 a_2]) : U).lf = 0 + 1 + 1 + U.lfs a_2 := by simp [U.lf, U.lfs] <;> omega
    rw [hlfa] at hmid
    have hkp : 0 < (U.mks (us.take i) k0).2 := by omega
    have hkb : (U.mks (us.take i) k0).2 + (0 + 1 + 1 + U.lfs a_2 : Nat) ≤ 4611686018427387904 := by omega
    clear hsnd hlfa hmid
    generalize (U.mks (us.take i) k0).2 = kk at hnext hkp hkb hge ⊢
    have hge : ms[i]? = some (.st [.i .i64 (kk), .s (txt (kk + 1)), .sl 3 (U.mks a_2 (kk + 1 + 1)).1]) := hge
    refine V_seq (V_block ?_)
    repeat (first | refine gGP ?_ | refine qO (Q_index rfl rfl TE.h TI.h (by omega) hge) ?_ | refine qQ (Q_index rfl rfl TE.h TI.h (by omega) hge) ?_)
    (first | refine V_cond rfl (fun hc3 => ?_) (fun hc3 => ?_) | refine V_seq (V_cond rfl (fun hc3 => ?_) (fun hc3 => ?_)))
    · simp at hc3
    refine V_skip ?_
    clear hc3
    have ht1 := markText_all (kk + 1) (by omega) (by omega)
    repeat (first | refine gGP ?_ | refine qO (Q_index rfl rfl TE.h TI.h (by omega) hge) ?_ | refine qQ (Q_index rfl rfl TE.h TI.h (by omega) hge) ?_ | refine qO (Q_call rfl ht1 vA) ?_ | refine qQ (Q_call rfl ht1 vA) ?_)
    (first | refine V_cond rfl (fun hc3 => ?_) (fun hc3 => ?_) | refine V_seq (V_cond rfl (fun hc3 => ?_) (fun hc3 => ?_)))
    · simp at hc3
    refine V_skip ?_
    clear hc3
    have hm2 := ih0 a_0 a_1 a_2 hmem (kk + 1 + 1) (by omega) (by simp only [U.lf]; omega)
    change SpecP _ _ [.d (.sl 3 (U.mks a_2 (kk + 1 + 1)).1), _] [.i .i64 (U.mks a_2 (kk + 1 + 1)).2] at hm2
    have hs2 := mks_snd a_2 (kk + 1 + 1)
    repeat (first | refine gGP ?_ | refine qO (Q_index rfl rfl TE.h TI.h (by omega) hge) ?_ | refine qQ (Q_index rfl rfl TE.h TI.h (by omega) hge) ?_ | refine qO (Q_call rfl hm2 vA) ?_ | refine qQ (Q_call rfl hm2 vA) ?_)
    (first | refine V_cond rfl (fun hc3 => ?_) (fun hc3 => ?_) | refine V_seq (V_cond rfl (fun hc3 => ?_) (fun hc3 => ?_)))
    · exfalso; simp only [decide_eq_true_eq] at hc3; change (U.mks a_2 (kk + 1 + 1)).2 < 0 at hc3; omega
    refine V_skip ?_
    clear hc3
    refine gGO ?_
    refine ⟨i + 1, by omega, by omega, ⟨rfl, ⟨⟨rfl, rfl⟩, ⟨?_, rfl⟩, ⟨rfl, rfl⟩, trivial⟩, ⟨[], rfl⟩, rfl⟩⟩
    rw [hnext]
    rfl
  · refine V_exit ?_
    simp only [decide_eq_false_iff_not] at hc2
    have hkl : i = us.length := by omega
    subst hkl
    show V _ _ _ _ _
    refine gGO ?_
    refine V_ret ?_
    refine ⟨trivial, ⟨_, rfl, ?_⟩, trivial⟩
    rw [List.take_length]
    exact rfl
theorem heldType_grp (u : U) : (∀ us, u = .sl 3 us → us.length ≤ big → (∀ x ∈ us, wt (.st 1) x) → PHe 133 u) := by
  refine U.ind (M := fun u => (∀ us, u = .sl 3 us → us.length ≤ big → (∀ x ∈ us, wt (.st 1) x) → PHe 133 u)) (fun u ih => ?_) u
  refine ?_
  · rintro us rfl hl hz
    exact heldTypeS_step hl hz (fun a_0 a_1 a_2 ha => by obtain ⟨_, _, _, hx_a, qa_0, qa_1, qa_2⟩ := inv_Type (hz _ ha); cases hx_a; exact (ih (.sl 3 a_2) (by have := nn_of_mem ha; simp only [U.nn, U.nns] at this ⊢; omega)) a_2 rfl qa_2.1 qa_2.2)
theorem heldTypeS_all {us : List U} (h : us.length ≤ big ∧ ∀ x ∈ us, wt (.st 1) x) : PHe 133 (.sl 3 us) := (heldType_grp (.sl 3 us)) us rfl h.1 h.2
set_option maxRecDepth 8000 in
set_option maxHeartbeats 8000000 in
theorem heldStringS_step {us : List U} (hl : us.length ≤ big) (hz : ∀ a ∈ us, wt (.str) a) : PHe 76 (.sl 1 us) := by
  intro k0 hk0 hk1
  have hlf : (U.sl 1 us).lf = U.lfs us := rfl
  rw [hlf] at hk1
  rw [big_eq] at hl
  show SpecP _ _ [.d (.sl 1 (U.mks us k0).1), .d (.i .i64 k0)] [.i .i64 (U.mks us k0).2]
  obtain ⟨ms, hms⟩ : ∃ ms, (U.mks us k0).1 = ms := ⟨_, rfl⟩
  have hml : ms.length = us.length := by rw [← hms, mks_len]
  have hel : ∀ (i : Nat) (a : U), us[i]? = some a → ms[i]? = some (a.mk (U.mks (us.take i) k0).2).1 := fun i a h => by rw [← hms]; exact mks_get h k0
  rw [hms]
  refine SpecP_intro Tryz.func76 rfl (by kernel_rfl) rfl fun A _ => ?_
  refine gGO ?_
  refine V_block ?_
  refine V_loop (α := Nat)
    (fun i => ⟨[(0, .d (.sl 1 ms)), (1, .d (.i .i64 (U.mks (us.take i) k0).2)), (5, .d (.i .i64 i))], [], Tryz.f76.ntmps⟩)
    (fun i => i ≤ us.length)
    (fun i => us.length - i) 0 ⟨rfl, ⟨⟨rfl, rfl⟩, ⟨rfl, rfl⟩, ⟨rfl, rfl⟩, trivial⟩, ⟨[], rfl⟩, rfl⟩ (by simp) ?_
  intro i hi
  refine gGO ?_
  (first | refine V_cond rfl (fun hc2 => ?_) (fun hc2 => ?_) | refine V_seq (V_cond rfl (fun hc2 => ?_) (fun hc2 => ?_)))
  · refine V_skip ?_
    simp only [decide_eq_true_eq] at hc2
    have hil : i < us.length := by omega
    obtain ⟨a, hget⟩ : ∃ a, us[i]? = some a := ⟨_, List.getElem?_eq_getElem hil⟩
    have hmem := List.mem_of_getElem? hget
    have hnext := (mks_next hget k0).2
    have hmid := lfs_mid hget
    have hsnd := mks_snd (us.take i) k0
    have hge := hel i a hget
    obtain ⟨a, rfl, _⟩ := inv_str (hz a hmem)
    have hlfa : ((.s a) : U).lf = 0 + 1 := by simp [U.lf, U.lfs]
    rw [hlfa] at hmid
    have hkp : 0 < (U.mks (us.take i) k0).2 := by omega
    have hkb : (U.mks (us.take i) k0).2 + (0 + 1 : Nat) ≤ 4611686018427387904 := by omega
    clear hsnd hlfa hmid
    generalize (U.mks (us.take i) k0).2 = kk at hnext hkp hkb hge ⊢
    have hge : ms[i]? = some (.s (txt (kk))) := hge
    refine V_seq (V_block ?_)
    have ht0 := markText_all (kk) (by omega) (by omega)
    repeat (first | refine gGP ?_ | refine qO (Q_index rfl rfl TE.h TI.h (by omega) hge) ?_ | refine qQ (Q_index rfl rfl TE.h TI.h (by omega) hge) ?_ | refine qO (Q_call rfl ht0 vA) ?_ | refine qQ (Q_call rfl ht0 vA) ?_)
    (first | refine V_cond rfl (fun hc3 => ?_) (fun hc3 => ?_) | refine V_seq (V_cond rfl (fun hc3 => ?_) (fun hc3 => ?_)))
    · simp at hc3
    refine V_skip ?_
    clear hc3
    refine gGO ?_
    refine ⟨i + 1, by omega, by omega, ⟨rfl, ⟨⟨rfl, rfl⟩, ⟨?_, rfl⟩, ⟨rfl, rfl⟩, trivial⟩, ⟨[], rfl⟩, rfl⟩⟩
    rw [hnext]
    rfl
  · refine V_exit ?_
    simp only [decide_eq_false_iff_not] at hc2
    have hkl : i = us.length := by omega
    subst hkl
    show V _ _ _ _ _
    refine gGO ?_
    refine V_ret ?_
    refine ⟨trivial, ⟨_, rfl, ?_⟩, trivial⟩
    rw [List.take_length]
    exact rfl
theorem heldStringS_all {us : List U} (h : us.length ≤ big ∧ ∀ x ∈ us, wt .str x) : PHe 76 (.sl 1 us) := heldStringS_step h.1 h.2
set_option maxRecDepth 8000 in
set_option maxHeartbeats 8000000 in
theorem heldArmS_step {us : List U} (hl : us.length ≤ big) (hz : ∀ a ∈ us, wt (.st 3) a) (ih0 : ∀ (a_0 : List UInt8) (a_1 : List U) (a_2_0 : Int) (a_2_1 : List UInt8) (a_2_2 : List UInt8) (a_2_3 : Int) (a_2_4_0 : Int) (a_2_4_1 : List UInt8) (a_2_4_2 : List U) (a_2_5 : List U) (a_2_6 : List U), .st [.s a_0, .sl 1 a_1, .st [.i .i64 a_2_0, .s a_2_1, .s a_2_2, .i .i64 a_2_3, .st [.i .i64 a_2_4_0, .s a_2_4_1, .sl 3 a_2_4_2], .sl 9 a_2_5, .sl 11 a_2_6]] ∈ us → PHe 76 (.sl 1 a_1)) (ih1 : ∀ (a_0 : List UInt8) (a_1 : List U) (a_2_0 : Int) (a_2_1 : List UInt8) (a_2_2 : List UInt8) (a_2_3 : Int) (a_2_4_0 : Int) (a_2_4_1 : List UInt8) (a_2_4_2 : List U) (a_2_5 : List U) (a_2_6 : List U), .st [.s a_0, .sl 1 a_1, .st [.i .i64 a_2_0, .s a_2_1, .s a_2_2, .i .i64 a_2_3, .st [.i .i64 a_2_4_0, .s a_2_4_1, .sl 3 a_2_4_2], .sl 9 a_2_5, .sl 11 a_2_6]] ∈ us → PHe 133 (.sl 3 a_2_4_2)) (ih2 : ∀ (a_0 : List UInt8) (a_1 : List U) (a_2_0 : Int) (a_2_1 : List UInt8) (a_2_2 : List UInt8) (a_2_3 : Int) (a_2_4_0 : Int) (a_2_4_1 : List UInt8) (a_2_4_2 : List U) (a_2_5 : List U) (a_2_6 : List U), .st [.s a_0, .sl 1 a_1, .st [.i .i64 a_2_0, .s a_2_1, .s a_2_2, .i .i64 a_2_3, .st [.i .i64 a_2_4_0, .s a_2_4_1, .sl 3 a_2_4_2], .sl 9 a_2_5, .sl 11 a_2_6]] ∈ us → PHe 137 (.sl 9 a_2_5)) (ih3 : ∀ (a_0 : List UInt8) (a_1 : List U) (a_2_0 : Int) (a_2_1 : List UInt8) (a_2_2 : List UInt8) (a_2_3 : Int) (a_2_4_0 : Int) (a_2_4_1 : List UInt8) (a_2_4_2 : List U) (a_2_5 : List U) (a_2_6 : List U), .st [.s a_0, .sl 1 a_1, .st [.i .i64 a_2_0, .s a_2_1, .s a_2_2, .i .i64 a_2_3, .st [.i .i64 a_2_4_0, .s a_2_4_1, .sl 3 a_2_4_2], .sl 9 a_2_5, .sl 11 a_2_6]] ∈ us → PHe 138 (.sl 11 a_2_6)) : PHe 138 (.sl 11 us) := by
  intro k0 hk0 hk1
  have hlf : (U.sl 11 us).lf = U.lfs us := rfl
  rw [hlf] at hk1
  rw [big_eq] at hl
  show SpecP _ _ [.d (.sl 11 (U.mks us k0).1), .d (.i .i64 k0)] [.i .i64 (U.mks us k0).2]
  obtain ⟨ms, hms⟩ : ∃ ms, (U.mks us k0).1 = ms := ⟨_, rfl⟩
  have hml : ms.length = us.length := by rw [← hms, mks_len]
  have hel : ∀ (i : Nat) (a : U), us[i]? = some a → ms[i]? = some (a.mk (U.mks (us.take i) k0).2).1 := fun i a h => by rw [← hms]; exact mks_get h k0
  rw [hms]
  refine SpecP_intro Tryz.func138 rfl (by kernel_rfl) rfl fun A _ => ?_
  refine gGO ?_
  refine V_block ?_
  refine V_loop (α := Nat)
    (fun i => ⟨[(0, .d (.sl 11 ms)), (1, .d (.i .i64 (U.mks (us.take i) k0).2)), (5, .d (.i .i64 i))], [], Tryz.f138.ntmps⟩)
    (fun i => i ≤ us.length)
    (fun i => us.length - i) 0 ⟨rfl, ⟨⟨rfl, rfl⟩, ⟨rfl, rfl⟩, ⟨rfl, rfl⟩, trivial⟩, ⟨[], rfl⟩, rfl⟩ (by simp) ?_
  intro i hi
  refine gGO ?_
  (first | refine V_cond rfl (fun hc2 => ?_) (fun hc2 => ?_) | refine V_seq (V_cond rfl (fun hc2 => ?_) (fun hc2 => ?_)))
  · refine V_skip ?_
    simp only [decide_eq_true_eq] at hc2
    have hil : i < us.length := by omega
    obtain ⟨a, hget⟩ : ∃ a, us[i]? = some a := ⟨_, List.getElem?_eq_getElem hil⟩
    have hmem := List.mem_of_getElem? hget
    have hnext := (mks_next hget k0).2
    have hmid := lfs_mid hget
    have hsnd := mks_snd (us.take i) k0
    have hge := hel i a hget
    have hwa := hz a hmem
    obtain ⟨a_0, a_1, a_2, rfl, hwa_0, hwa_1, hwa_2⟩ := inv_Arm hwa
    obtain ⟨a_2_0, a_2_1, a_2_2, a_2_3, a_2_4, a_2_5, a_2_6, rfl, hwa_2_0, hwa_2_1, hwa_2_2, hwa_2_3, hwa_2_4, hwa_2_5, hwa_2_6⟩ := inv_Expr hwa_2
    obtain ⟨a_2_4_0, a_2_4_1, a_2_4_2, rfl, hwa_2_4_0, hwa_2_4_1, hwa_2_4_2⟩ := inv_Type hwa_2_4
    have hlfa : ((.st [.s a_0, .sl 1 a_1, .st [.i .i64 a_2_0, .s a_2_1, .s a_2_2, .i .i64 a_2_3, .st [.i .i64 a_2_4_0, .s a_2_4_1, .sl 3 a_2_4_2], .sl 9 a_2_5, .sl 11 a_2_6]]) : U).lf = 0 + 1 + U.lfs a_1 + 1 + 1 + 1 + 1 + 1 + 1 + U.lfs a_2_4_2 + U.lfs a_2_5 + U.lfs a_2_6 := by simp [U.lf, U.lfs] <;> omega
    rw [hlfa] at hmid
    have hkp : 0 < (U.mks (us.take i) k0).2 := by omega
    have hkb : (U.mks (us.take i) k0).2 + (0 + 1 + U.lfs a_1 + 1 + 1 + 1 + 1 + 1 + 1 + U.lfs a_2_4_2 + U.lfs a_2_5 + U.lfs a_2_6 : Nat) ≤ 4611686018427387904 := by omega
    clear hsnd hlfa hmid
    generalize (U.mks (us.take i) k0).2 = kk at hnext hkp hkb hge ⊢
    have hge : ms[i]? = some (.st [.s (txt (kk)), .sl 1 (U.mks a_1 (kk + 1)).1, .st [.i .i64 ((U.mks a_1 (kk + 1)).2), .s (txt ((U.mks a_1 (kk + 1)).2 + 1)), .s (txt ((U.mks a_1 (kk + 1)).2 + 1 + 1)), .i .i64 ((U.mks a_1 (kk + 1)).2 + 1 + 1 + 1), .st [.i .i64 ((U.mks a_1 (kk + 1)).2 + 1 + 1 + 1 + 1), .s (txt ((U.mks a_1 (kk + 1)).2 + 1 + 1 + 1 + 1 + 1)), .sl 3 (U.mks a_2_4_2 ((U.mks a_1 (kk + 1)).2 + 1 + 1 + 1 + 1 + 1 + 1)).1], .sl 9 (U.mks a_2_5 ((U.mks a_2_4_2 ((U.mks a_1 (kk + 1)).2 + 1 + 1 + 1 + 1 + 1 + 1)).2)).1, .sl 11 (U.mks a_2_6 ((U.mks a_2_5 ((U.mks a_2_4_2 ((U.mks a_1 (kk + 1)).2 + 1 + 1 + 1 + 1 + 1 + 1)).2)).2)).1]]) := hge
    refine V_seq (V_block ?_)
    have ht0 := markText_all (kk) (by omega) (by omega)
    repeat (first | refine gGP ?_ | refine qO (Q_index rfl rfl TE.h TI.h (by omega) hge) ?_ | refine qQ (Q_index rfl rfl TE.h TI.h (by omega) hge) ?_ | refine qO (Q_call rfl ht0 vA) ?_ | refine qQ (Q_call rfl ht0 vA) ?_)
    (first | refine V_cond rfl (fun hc3 => ?_) (fun hc3 => ?_) | refine V_seq (V_cond rfl (fun hc3 => ?_) (fun hc3 => ?_)))
    · simp at hc3
    refine V_skip ?_
    clear hc3
    have hm1 := ih0 a_0 a_1 a_2_0 a_2_1 a_2_2 a_2_3 a_2_4_0 a_2_4_1 a_2_4_2 a_2_5 a_2_6 hmem (kk + 1) (by omega) (by simp only [U.lf]; omega)
    change SpecP _ _ [.d (.sl 1 (U.mks a_1 (kk + 1)).1), _] [.i .i64 (U.mks a_1 (kk + 1)).2] at hm1
    have hs1 := mks_snd a_1 (kk + 1)
    repeat (first | refine gGP ?_ | refine qO (Q_index rfl rfl TE.h TI.h (by omega) hge) ?_ | refine qQ (Q_index rfl rfl TE.h TI.h (by omega) hge) ?_ | refine qO (Q_call rfl hm1 vA) ?_ | refine qQ (Q_call rfl hm1 vA) ?_)
    (first | refine V_cond rfl (fun hc3 => ?_) (fun hc3 => ?_) | refine V_seq (V_cond rfl (fun hc3 => ?_) (fun hc3 => ?_)))
    · exfalso; simp only [decide_eq_true_eq] at hc3; change (U.mks a_1 (kk + 1)).2 < 0 at hc3; omega
    refine V_skip ?_
    clear hc3
    repeat (first | refine gGP ?_ | refine qO (Q_index rfl rfl TE.h TI.h (by omega) hge) ?_ | refine qQ (Q_index rfl rfl TE.h TI.h (by omega) hge) ?_)
    (first | refine V_cond rfl (fun hc3 => ?_) (fun hc3 => ?_) | refine V_seq (V_cond rfl (fun hc3 => ?_) (fun hc3 => ?_)))
    · simp at hc3
    refine V_skip ?_
    clear hc3
    have ht3 := markText_all ((U.mks a_1 (kk + 1)).2 + 1) (by omega) (by omega)
    repeat (first | refine gGP ?_ | refine qO (Q_index rfl rfl TE.h TI.h (by omega) hge) ?_ | refine qQ (Q_index rfl rfl TE.h TI.h (by omega) hge) ?_ | refine qO (Q_call rfl ht3 vA) ?_ | refine qQ (Q_call rfl ht3 vA) ?_)
    (first | refine V_cond rfl (fun hc3 => ?_) (fun hc3 => ?_) | refine V_seq (V_cond rfl (fun hc3 => ?_) (fun hc3 => ?_)))
    · simp at hc3
    refine V_skip ?_
    clear hc3
    have ht4 := markText_all ((U.mks a_1 (kk + 1)).2 + 1 + 1) (by omega) (by omega)
    repeat (first | refine gGP ?_ | refine qO (Q_index rfl rfl TE.h TI.h (by omega) hge) ?_ | refine qQ (Q_index rfl rfl TE.h TI.h (by omega) hge) ?_ | refine qO (Q_call rfl ht4 vA) ?_ | refine qQ (Q_call rfl ht4 vA) ?_)
    (first | refine V_cond rfl (fun hc3 => ?_) (fun hc3 => ?_) | refine V_seq (V_cond rfl (fun hc3 => ?_) (fun hc3 => ?_)))
    · simp at hc3
    refine V_skip ?_
    clear hc3
    repeat (first | refine gGP ?_ | refine qO (Q_index rfl rfl TE.h TI.h (by omega) hge) ?_ | refine qQ (Q_index rfl rfl TE.h TI.h (by omega) hge) ?_)
    (first | refine V_cond rfl (fun hc3 => ?_) (fun hc3 => ?_) | refine V_seq (V_cond rfl (fun hc3 => ?_) (fun hc3 => ?_)))
    · simp at hc3
    refine V_skip ?_
    clear hc3
    repeat (first | refine gGP ?_ | refine qO (Q_index rfl rfl TE.h TI.h (by omega) hge) ?_ | refine qQ (Q_index rfl rfl TE.h TI.h (by omega) hge) ?_)
    (first | refine V_cond rfl (fun hc3 => ?_) (fun hc3 => ?_) | refine V_seq (V_cond rfl (fun hc3 => ?_) (fun hc3 => ?_)))
    · simp at hc3
    refine V_skip ?_
    clear hc3
    have ht7 := markText_all ((U.mks a_1 (kk + 1)).2 + 1 + 1 + 1 + 1 + 1) (by omega) (by omega)
    repeat (first | refine gGP ?_ | refine qO (Q_index rfl rfl TE.h TI.h (by omega) hge) ?_ | refine qQ (Q_index rfl rfl TE.h TI.h (by omega) hge) ?_ | refine qO (Q_call rfl ht7 vA) ?_ | refine qQ (Q_call rfl ht7 vA) ?_)
    (first | refine V_cond rfl (fun hc3 => ?_) (fun hc3 => ?_) | refine V_seq (V_cond rfl (fun hc3 => ?_) (fun hc3 => ?_)))
    · simp at hc3
    refine V_skip ?_
    clear hc3
    have hm8 := ih1 a_0 a_1 a_2_0 a_2_1 a_2_2 a_2_3 a_2_4_0 a_2_4_1 a_2_4_2 a_2_5 a_2_6 hmem ((U.mks a_1 (kk + 1)).2 + 1 + 1 + 1 + 1 + 1 + 1) (by omega) (by simp only [U.lf]; omega)
    change SpecP _ _ [.d (.sl 3 (U.mks a_2_4_2 ((U.mks a_1 (kk + 1)).2 + 1 + 1 + 1 + 1 + 1 + 1)).1), _] [.i .i64 (U.mks a_2_4_2 ((U.mks a_1 (kk + 1)).2 + 1 + 1 + 1 + 1 + 1 + 1)).2] at hm8
    have hs8 := mks_snd a_2_4_2 ((U.mks a_1 (kk + 1)).2 + 1 + 1 + 1 + 1 + 1 + 1)
    repeat (first | refine gGP ?_ | refine qO (Q_index rfl rfl TE.h TI.h (by omega) hge) ?_ | refine qQ (Q_index rfl rfl TE.h TI.h (by omega) hge) ?_ | refine qO (Q_call rfl hm8 vA) ?_ | refine qQ (Q_call rfl hm8 vA) ?_)
    (first | refine V_cond rfl (fun hc3 => ?_) (fun hc3 => ?_) | refine V_seq (V_cond rfl (fun hc3 => ?_) (fun hc3 => ?_)))
    · exfalso; simp only [decide_eq_true_eq] at hc3; change (U.mks a_2_4_2 ((U.mks a_1 (kk + 1)).2 + 1 + 1 + 1 + 1 + 1 + 1)).2 < 0 at hc3; omega
    refine V_skip ?_
    clear hc3
    have hm9 := ih2 a_0 a_1 a_2_0 a_2_1 a_2_2 a_2_3 a_2_4_0 a_2_4_1 a_2_4_2 a_2_5 a_2_6 hmem ((U.mks a_2_4_2 ((U.mks a_1 (kk + 1)).2 + 1 + 1 + 1 + 1 + 1 + 1)).2) (by omega) (by simp only [U.lf]; omega)
    change SpecP _ _ [.d (.sl 9 (U.mks a_2_5 ((U.mks a_2_4_2 ((U.mks a_1 (kk + 1)).2 + 1 + 1 + 1 + 1 + 1 + 1)).2)).1), _] [.i .i64 (U.mks a_2_5 ((U.mks a_2_4_2 ((U.mks a_1 (kk + 1)).2 + 1 + 1 + 1 + 1 + 1 + 1)).2)).2] at hm9
    have hs9 := mks_snd a_2_5 ((U.mks a_2_4_2 ((U.mks a_1 (kk + 1)).2 + 1 + 1 + 1 + 1 + 1 + 1)).2)
    repeat (first | refine gGP ?_ | refine qO (Q_index rfl rfl TE.h TI.h (by omega) hge) ?_ | refine qQ (Q_index rfl rfl TE.h TI.h (by omega) hge) ?_ | refine qO (Q_call rfl hm9 vA) ?_ | refine qQ (Q_call rfl hm9 vA) ?_)
    (first | refine V_cond rfl (fun hc3 => ?_) (fun hc3 => ?_) | refine V_seq (V_cond rfl (fun hc3 => ?_) (fun hc3 => ?_)))
    · exfalso; simp only [decide_eq_true_eq] at hc3; change (U.mks a_2_5 ((U.mks a_2_4_2 ((U.mks a_1 (kk + 1)).2 + 1 + 1 + 1 + 1 + 1 + 1)).2)).2 < 0 at hc3; omega
    refine V_skip ?_
    clear hc3
    have hm10 := ih3 a_0 a_1 a_2_0 a_2_1 a_2_2 a_2_3 a_2_4_0 a_2_4_1 a_2_4_2 a_2_5 a_2_6 hmem ((U.mks a_2_5 ((U.mks a_2_4_2 ((U.mks a_1 (kk + 1)).2 + 1 + 1 + 1 + 1 + 1 + 1)).2)).2) (by omega) (by simp only [U.lf]; omega)
    change SpecP _ _ [.d (.sl 11 (U.mks a_2_6 ((U.mks a_2_5 ((U.mks a_2_4_2 ((U.mks a_1 (kk + 1)).2 + 1 + 1 + 1 + 1 + 1 + 1)).2)).2)).1), _] [.i .i64 (U.mks a_2_6 ((U.mks a_2_5 ((U.mks a_2_4_2 ((U.mks a_1 (kk + 1)).2 + 1 + 1 + 1 + 1 + 1 + 1)).2)).2)).2] at hm10
    have hs10 := mks_snd a_2_6 ((U.mks a_2_5 ((U.mks a_2_4_2 ((U.mks a_1 (kk + 1)).2 + 1 + 1 + 1 + 1 + 1 + 1)).2)).2)
    repeat (first | refine gGP ?_ | refine qO (Q_index rfl rfl TE.h TI.h (by omega) hge) ?_ | refine qQ (Q_index rfl rfl TE.h TI.h (by omega) hge) ?_ | refine qO (Q_call rfl hm10 vA) ?_ | refine qQ (Q_call rfl hm10 vA) ?_)
    (first | refine V_cond rfl (fun hc3 => ?_) (fun hc3 => ?_) | refine V_seq (V_cond rfl (fun hc3 => ?_) (fun hc3 => ?_)))
    · exfalso; simp only [decide_eq_true_eq] at hc3; change (U.mks a_2_6 ((U.mks a_2_5 ((U.mks a_2_4_2 ((U.mks a_1 (kk + 1)).2 + 1 + 1 + 1 + 1 + 1 + 1)).2)).2)).2 < 0 at hc3; omega
    refine V_skip ?_
    clear hc3
    refine gGO ?_
    refine ⟨i + 1, by omega, by omega, ⟨rfl, ⟨⟨rfl, rfl⟩, ⟨?_, rfl⟩, ⟨rfl, rfl⟩, trivial⟩, ⟨[], rfl⟩, rfl⟩⟩
    rw [hnext]
    rfl
  · refine V_exit ?_
    simp only [decide_eq_false_iff_not] at hc2
    have hkl : i = us.length := by omega
    subst hkl
    show V _ _ _ _ _
    refine gGO ?_
    refine V_ret ?_
    refine ⟨trivial, ⟨_, rfl, ?_⟩, trivial⟩
    rw [List.take_length]
    exact rfl
set_option maxRecDepth 8000 in
set_option maxHeartbeats 8000000 in
theorem heldExprS_step {us : List U} (hl : us.length ≤ big) (hz : ∀ a ∈ us, wt (.st 4) a) (ih0 : ∀ (a_0 : Int) (a_1 : List UInt8) (a_2 : List UInt8) (a_3 : Int) (a_4_0 : Int) (a_4_1 : List UInt8) (a_4_2 : List U) (a_5 : List U) (a_6 : List U), .st [.i .i64 a_0, .s a_1, .s a_2, .i .i64 a_3, .st [.i .i64 a_4_0, .s a_4_1, .sl 3 a_4_2], .sl 9 a_5, .sl 11 a_6] ∈ us → PHe 133 (.sl 3 a_4_2)) (ih1 : ∀ (a_0 : Int) (a_1 : List UInt8) (a_2 : List UInt8) (a_3 : Int) (a_4_0 : Int) (a_4_1 : List UInt8) (a_4_2 : List U) (a_5 : List U) (a_6 : List U), .st [.i .i64 a_0, .s a_1, .s a_2, .i .i64 a_3, .st [.i .i64 a_4_0, .s a_4_1, .sl 3 a_4_2], .sl 9 a_5, .sl 11 a_6] ∈ us → PHe 137 (.sl 9 a_5)) (ih2 : ∀ (a_0 : Int) (a_1 : List UInt8) (a_2 : List UInt8) (a_3 : Int) (a_4_0 : Int) (a_4_1 : List UInt8) (a_4_2 : List U) (a_5 : List U) (a_6 : List U), .st [.i .i64 a_0, .s a_1, .s a_2, .i .i64 a_3, .st [.i .i64 a_4_0, .s a_4_1, .sl 3 a_4_2], .sl 9 a_5, .sl 11 a_6] ∈ us → PHe 138 (.sl 11 a_6)) : PHe 137 (.sl 9 us) := by
  intro k0 hk0 hk1
  have hlf : (U.sl 9 us).lf = U.lfs us := rfl
  rw [hlf] at hk1
  rw [big_eq] at hl
  show SpecP _ _ [.d (.sl 9 (U.mks us k0).1), .d (.i .i64 k0)] [.i .i64 (U.mks us k0).2]
  obtain ⟨ms, hms⟩ : ∃ ms, (U.mks us k0).1 = ms := ⟨_, rfl⟩
  have hml : ms.length = us.length := by rw [← hms, mks_len]
  have hel : ∀ (i : Nat) (a : U), us[i]? = some a → ms[i]? = some (a.mk (U.mks (us.take i) k0).2).1 := fun i a h => by rw [← hms]; exact mks_get h k0
  rw [hms]
  refine SpecP_intro Tryz.func137 rfl (by kernel_rfl) rfl fun A _ => ?_
  refine gGO ?_
  refine V_block ?_
  refine V_loop (α := Nat)
    (fun i => ⟨[(0, .d (.sl 9 ms)), (1, .d (.i .i64 (U.mks (us.take i) k0).2)), (5, .d (.i .i64 i))], [], Tryz.f137.ntmps⟩)
    (fun i => i ≤ us.length)
    (fun i => us.length - i) 0 ⟨rfl, ⟨⟨rfl, rfl⟩, ⟨rfl, rfl⟩, ⟨rfl, rfl⟩, trivial⟩, ⟨[], rfl⟩, rfl⟩ (by simp) ?_
  intro i hi
  refine gGO ?_
  (first | refine V_cond rfl (fun hc2 => ?_) (fun hc2 => ?_) | refine V_seq (V_cond rfl (fun hc2 => ?_) (fun hc2 => ?_)))
  · refine V_skip ?_
    simp only [decide_eq_true_eq] at hc2
    have hil : i < us.length := by omega
    obtain ⟨a, hget⟩ : ∃ a, us[i]? = some a := ⟨_, List.getElem?_eq_getElem hil⟩
    have hmem := List.mem_of_getElem? hget
    have hnext := (mks_next hget k0).2
    have hmid := lfs_mid hget
    have hsnd := mks_snd (us.take i) k0
    have hge := hel i a hget
    have hwa := hz a hmem
    obtain ⟨a_0, a_1, a_2, a_3, a_4, a_5, a_6, rfl, hwa_0, hwa_1, hwa_2, hwa_3, hwa_4, hwa_5, hwa_6⟩ := inv_Expr hwa
    obtain ⟨a_4_0, a_4_1, a_4_2, rfl, hwa_4_0, hwa_4_1, hwa_4_2⟩ := inv_Type hwa_4
    have hlfa : ((.st [.i .i64 a_0, .s a_1, .s a_2, .i .i64 a_3, .st [.i .i64 a_4_0, .s a_4_1, .sl 3 a_4_2], .sl 9 a_5, .sl 11 a_6]) : U).lf = 0 + 1 + 1 + 1 + 1 + 1 + 1 + U.lfs a_4_2 + U.lfs a_5 + U.lfs a_6 := by simp [U.lf, U.lfs] <;> omega
    rw [hlfa] at hmid
    have hkp : 0 < (U.mks (us.take i) k0).2 := by omega
    have hkb : (U.mks (us.take i) k0).2 + (0 + 1 + 1 + 1 + 1 + 1 + 1 + U.lfs a_4_2 + U.lfs a_5 + U.lfs a_6 : Nat) ≤ 4611686018427387904 := by omega
    clear hsnd hlfa hmid
    generalize (U.mks (us.take i) k0).2 = kk at hnext hkp hkb hge ⊢
    have hge : ms[i]? = some (.st [.i .i64 (kk), .s (txt (kk + 1)), .s (txt (kk + 1 + 1)), .i .i64 (kk + 1 + 1 + 1), .st [.i .i64 (kk + 1 + 1 + 1 + 1), .s (txt (kk + 1 + 1 + 1 + 1 + 1)), .sl 3 (U.mks a_4_2 (kk + 1 + 1 + 1 + 1 + 1 + 1)).1], .sl 9 (U.mks a_5 ((U.mks a_4_2 (kk + 1 + 1 + 1 + 1 + 1 + 1)).2)).1, .sl 11 (U.mks a_6 ((U.mks a_5 ((U.mks a_4_2 (kk + 1 + 1 + 1 + 1 + 1 + 1)).2)).2)).1]) := hge
    refine V_seq (V_block ?_)
    repeat (first | refine gGP ?_ | refine qO (Q_index rfl rfl TE.h TI.h (by omega) hge) ?_ | refine qQ (Q_index rfl rfl TE.h TI.h (by omega) hge) ?_)
    (first | refine V_cond rfl (fun hc3 => ?_) (fun hc3 => ?_) | refine V_seq (V_cond rfl (fun hc3 => ?_) (fun hc3 => ?_)))
    · simp at hc3
    refine V_skip ?_
    clear hc3
    have ht1 := markText_all (kk + 1) (by omega) (by omega)
    repeat (first | refine gGP ?_ | refine qO (Q_index rfl rfl TE.h TI.h (by omega) hge) ?_ | refine qQ (Q_index rfl rfl TE.h TI.h (by omega) hge) ?_ | refine qO (Q_call rfl ht1 vA) ?_ | refine qQ (Q_call rfl ht1 vA) ?_)
    (first | refine V_cond rfl (fun hc3 => ?_) (fun hc3 => ?_) | refine V_seq (V_cond rfl (fun hc3 => ?_) (fun hc3 => ?_)))
    · simp at hc3
    refine V_skip ?_
    clear hc3
    have ht2 := markText_all (kk + 1 + 1) (by omega) (by omega)
    repeat (first | refine gGP ?_ | refine qO (Q_index rfl rfl TE.h TI.h (by omega) hge) ?_ | refine qQ (Q_index rfl rfl TE.h TI.h (by omega) hge) ?_ | refine qO (Q_call rfl ht2 vA) ?_ | refine qQ (Q_call rfl ht2 vA) ?_)
    (first | refine V_cond rfl (fun hc3 => ?_) (fun hc3 => ?_) | refine V_seq (V_cond rfl (fun hc3 => ?_) (fun hc3 => ?_)))
    · simp at hc3
    refine V_skip ?_
    clear hc3
    repeat (first | refine gGP ?_ | refine qO (Q_index rfl rfl TE.h TI.h (by omega) hge) ?_ | refine qQ (Q_index rfl rfl TE.h TI.h (by omega) hge) ?_)
    (first | refine V_cond rfl (fun hc3 => ?_) (fun hc3 => ?_) | refine V_seq (V_cond rfl (fun hc3 => ?_) (fun hc3 => ?_)))
    · simp at hc3
    refine V_skip ?_
    clear hc3
    repeat (first | refine gGP ?_ | refine qO (Q_index rfl rfl TE.h TI.h (by omega) hge) ?_ | refine qQ (Q_index rfl rfl TE.h TI.h (by omega) hge) ?_)
    (first | refine V_cond rfl (fun hc3 => ?_) (fun hc3 => ?_) | refine V_seq (V_cond rfl (fun hc3 => ?_) (fun hc3 => ?_)))
    · simp at hc3
    refine V_skip ?_
    clear hc3
    have ht5 := markText_all (kk + 1 + 1 + 1 + 1 + 1) (by omega) (by omega)
    repeat (first | refine gGP ?_ | refine qO (Q_index rfl rfl TE.h TI.h (by omega) hge) ?_ | refine qQ (Q_index rfl rfl TE.h TI.h (by omega) hge) ?_ | refine qO (Q_call rfl ht5 vA) ?_ | refine qQ (Q_call rfl ht5 vA) ?_)
    (first | refine V_cond rfl (fun hc3 => ?_) (fun hc3 => ?_) | refine V_seq (V_cond rfl (fun hc3 => ?_) (fun hc3 => ?_)))
    · simp at hc3
    refine V_skip ?_
    clear hc3
    have hm6 := ih0 a_0 a_1 a_2 a_3 a_4_0 a_4_1 a_4_2 a_5 a_6 hmem (kk + 1 + 1 + 1 + 1 + 1 + 1) (by omega) (by simp only [U.lf]; omega)
    change SpecP _ _ [.d (.sl 3 (U.mks a_4_2 (kk + 1 + 1 + 1 + 1 + 1 + 1)).1), _] [.i .i64 (U.mks a_4_2 (kk + 1 + 1 + 1 + 1 + 1 + 1)).2] at hm6
    have hs6 := mks_snd a_4_2 (kk + 1 + 1 + 1 + 1 + 1 + 1)
    repeat (first | refine gGP ?_ | refine qO (Q_index rfl rfl TE.h TI.h (by omega) hge) ?_ | refine qQ (Q_index rfl rfl TE.h TI.h (by omega) hge) ?_ | refine qO (Q_call rfl hm6 vA) ?_ | refine qQ (Q_call rfl hm6 vA) ?_)
    (first | refine V_cond rfl (fun hc3 => ?_) (fun hc3 => ?_) | refine V_seq (V_cond rfl (fun hc3 => ?_) (fun hc3 => ?_)))
    · exfalso; simp only [decide_eq_true_eq] at hc3; change (U.mks a_4_2 (kk + 1 + 1 + 1 + 1 + 1 + 1)).2 < 0 at hc3; omega
    refine V_skip ?_
    clear hc3
    have hm7 := ih1 a_0 a_1 a_2 a_3 a_4_0 a_4_1 a_4_2 a_5 a_6 hmem ((U.mks a_4_2 (kk + 1 + 1 + 1 + 1 + 1 + 1)).2) (by omega) (by simp only [U.lf]; omega)
    change SpecP _ _ [.d (.sl 9 (U.mks a_5 ((U.mks a_4_2 (kk + 1 + 1 + 1 + 1 + 1 + 1)).2)).1), _] [.i .i64 (U.mks a_5 ((U.mks a_4_2 (kk + 1 + 1 + 1 + 1 + 1 + 1)).2)).2] at hm7
    have hs7 := mks_snd a_5 ((U.mks a_4_2 (kk + 1 + 1 + 1 + 1 + 1 + 1)).2)
    repeat (first | refine gGP ?_ | refine qO (Q_index rfl rfl TE.h TI.h (by omega) hge) ?_ | refine qQ (Q_index rfl rfl TE.h TI.h (by omega) hge) ?_ | refine qO (Q_call rfl hm7 vA) ?_ | refine qQ (Q_call rfl hm7 vA) ?_)
    (first | refine V_cond rfl (fun hc3 => ?_) (fun hc3 => ?_) | refine V_seq (V_cond rfl (fun hc3 => ?_) (fun hc3 => ?_)))
    · exfalso; simp only [decide_eq_true_eq] at hc3; change (U.mks a_5 ((U.mks a_4_2 (kk + 1 + 1 + 1 + 1 + 1 + 1)).2)).2 < 0 at hc3; omega
    refine V_skip ?_
    clear hc3
    have hm8 := ih2 a_0 a_1 a_2 a_3 a_4_0 a_4_1 a_4_2 a_5 a_6 hmem ((U.mks a_5 ((U.mks a_4_2 (kk + 1 + 1 + 1 + 1 + 1 + 1)).2)).2) (by omega) (by simp only [U.lf]; omega)
    change SpecP _ _ [.d (.sl 11 (U.mks a_6 ((U.mks a_5 ((U.mks a_4_2 (kk + 1 + 1 + 1 + 1 + 1 + 1)).2)).2)).1), _] [.i .i64 (U.mks a_6 ((U.mks a_5 ((U.mks a_4_2 (kk + 1 + 1 + 1 + 1 + 1 + 1)).2)).2)).2] at hm8
    have hs8 := mks_snd a_6 ((U.mks a_5 ((U.mks a_4_2 (kk + 1 + 1 + 1 + 1 + 1 + 1)).2)).2)
    repeat (first | refine gGP ?_ | refine qO (Q_index rfl rfl TE.h TI.h (by omega) hge) ?_ | refine qQ (Q_index rfl rfl TE.h TI.h (by omega) hge) ?_ | refine qO (Q_call rfl hm8 vA) ?_ | refine qQ (Q_call rfl hm8 vA) ?_)
    (first | refine V_cond rfl (fun hc3 => ?_) (fun hc3 => ?_) | refine V_seq (V_cond rfl (fun hc3 => ?_) (fun hc3 => ?_)))
    · exfalso; simp only [decide_eq_true_eq] at hc3; change (U.mks a_6 ((U.mks a_5 ((U.mks a_4_2 (kk + 1 + 1 + 1 + 1 + 1 + 1)).2)).2)).2 < 0 at hc3; omega
    refine V_skip ?_
    clear hc3
    refine gGO ?_
    refine ⟨i + 1, by omega, by omega, ⟨rfl, ⟨⟨rfl, rfl⟩, ⟨?_, rfl⟩, ⟨rfl, rfl⟩, trivial⟩, ⟨[], rfl⟩, rfl⟩⟩
    rw [hnext]
    rfl
  · refine V_exit ?_
    simp only [decide_eq_false_iff_not] at hc2
    have hkl : i = us.length := by omega
    subst hkl
    show V _ _ _ _ _
    refine gGO ?_
    refine V_ret ?_
    refine ⟨trivial, ⟨_, rfl, ?_⟩, trivial⟩
    rw [List.take_length]
    exact rfl
theorem heldArmExpr_grp (u : U) : (∀ us, u = .sl 11 us → us.length ≤ big → (∀ x ∈ us, wt (.st 3) x) → PHe 138 u) ∧ (∀ us, u = .sl 9 us → us.length ≤ big → (∀ x ∈ us, wt (.st 4) x) → PHe 137 u) := by
  refine U.ind (M := fun u => (∀ us, u = .sl 11 us → us.length ≤ big → (∀ x ∈ us, wt (.st 3) x) → PHe 138 u) ∧ (∀ us, u = .sl 9 us → us.length ≤ big → (∀ x ∈ us, wt (.st 4) x) → PHe 137 u)) (fun u ih => ?_) u
  refine ⟨?_, ?_⟩
  · rintro us rfl hl hz
    exact heldArmS_step hl hz (fun a_0 a_1 a_2_0 a_2_1 a_2_2 a_2_3 a_2_4_0 a_2_4_1 a_2_4_2 a_2_5 a_2_6 ha => by obtain ⟨_, _, _, hx_a, qa_0, qa_1, qa_2⟩ := inv_Arm (hz _ ha); cases hx_a; obtain ⟨_, _, _, _, _, _, _, hx_a_2, qa_2_0, qa_2_1, qa_2_2, qa_2_3, qa_2_4, qa_2_5, qa_2_6⟩ := inv_Expr qa_2; cases hx_a_2; obtain ⟨_, _, _, hx_a_2_4, qa_2_4_0, qa_2_4_1, qa_2_4_2⟩ := inv_Type qa_2_4; cases hx_a_2_4; exact heldStringS_all qa_1) (fun a_0 a_1 a_2_0 a_2_1 a_2_2 a_2_3 a_2_4_0 a_2_4_1 a_2_4_2 a_2_5 a_2_6 ha => by obtain ⟨_, _, _, hx_a, qa_0, qa_1, qa_2⟩ := inv_Arm (hz _ ha); cases hx_a; obtain ⟨_, _, _, _, _, _, _, hx_a_2, qa_2_0, qa_2_1, qa_2_2, qa_2_3, qa_2_4, qa_2_5, qa_2_6⟩ := inv_Expr qa_2; cases hx_a_2; obtain ⟨_, _, _, hx_a_2_4, qa_2_4_0, qa_2_4_1, qa_2_4_2⟩ := inv_Type qa_2_4; cases hx_a_2_4; exact heldTypeS_all qa_2_4_2) (fun a_0 a_1 a_2_0 a_2_1 a_2_2 a_2_3 a_2_4_0 a_2_4_1 a_2_4_2 a_2_5 a_2_6 ha => by obtain ⟨_, _, _, hx_a, qa_0, qa_1, qa_2⟩ := inv_Arm (hz _ ha); cases hx_a; obtain ⟨_, _, _, _, _, _, _, hx_a_2, qa_2_0, qa_2_1, qa_2_2, qa_2_3, qa_2_4, qa_2_5, qa_2_6⟩ := inv_Expr qa_2; cases hx_a_2; obtain ⟨_, _, _, hx_a_2_4, qa_2_4_0, qa_2_4_1, qa_2_4_2⟩ := inv_Type qa_2_4; cases hx_a_2_4; exact (ih (.sl 9 a_2_5) (by have := nn_of_mem ha; simp only [U.nn, U.nns] at this ⊢; omega)).2 a_2_5 rfl qa_2_5.1 qa_2_5.2) (fun a_0 a_1 a_2_0 a_2_1 a_2_2 a_2_3 a_2_4_0 a_2_4_1 a_2_4_2 a_2_5 a_2_6 ha => by obtain ⟨_, _, _, hx_a, qa_0, qa_1, qa_2⟩ := inv_Arm (hz _ ha); cases hx_a; obtain ⟨_, _, _, _, _, _, _, hx_a_2, qa_2_0, qa_2_1, qa_2_2, qa_2_3, qa_2_4, qa_2_5, qa_2_6⟩ := inv_Expr qa_2; cases hx_a_2; obtain ⟨_, _, _, hx_a_2_4, qa_2_4_0, qa_2_4_1, qa_2_4_2⟩ := inv_Type qa_2_4; cases hx_a_2_4; exact (ih (.sl 11 a_2_6) (by have := nn_of_mem ha; simp only [U.nn, U.nns] at this ⊢; omega)).1 a_2_6 rfl qa_2_6.1 qa_2_6.2)
  · rintro us rfl hl hz
    exact heldExprS_step hl hz (fun a_0 a_1 a_2 a_3 a_4_0 a_4_1 a_4_2 a_5 a_6 ha => by obtain ⟨_, _, _, _, _, _, _, hx_a, qa_0, qa_1, qa_2, qa_3, qa_4, qa_5, qa_6⟩ := inv_Expr (hz _ ha); cases hx_a; obtain ⟨_, _, _, hx_a_4, qa_4_0, qa_4_1, qa_4_2⟩ := inv_Type qa_4; cases hx_a_4; exact heldTypeS_all qa_4_2) (fun a_0 a_1 a_2 a_3 a_4_0 a_4_1 a_4_2 a_5 a_6 ha => by obtain ⟨_, _, _, _, _, _, _, hx_a, qa_0, qa_1, qa_2, qa_3, qa_4, qa_5, qa_6⟩ := inv_Expr (hz _ ha); cases hx_a; obtain ⟨_, _, _, hx_a_4, qa_4_0, qa_4_1, qa_4_2⟩ := inv_Type qa_4; cases hx_a_4; exact (ih (.sl 9 a_5) (by have := nn_of_mem ha; simp only [U.nn, U.nns] at this ⊢; omega)).2 a_5 rfl qa_5.1 qa_5.2) (fun a_0 a_1 a_2 a_3 a_4_0 a_4_1 a_4_2 a_5 a_6 ha => by obtain ⟨_, _, _, _, _, _, _, hx_a, qa_0, qa_1, qa_2, qa_3, qa_4, qa_5, qa_6⟩ := inv_Expr (hz _ ha); cases hx_a; obtain ⟨_, _, _, hx_a_4, qa_4_0, qa_4_1, qa_4_2⟩ := inv_Type qa_4; cases hx_a_4; exact (ih (.sl 11 a_6) (by have := nn_of_mem ha; simp only [U.nn, U.nns] at this ⊢; omega)).1 a_6 rfl qa_6.1 qa_6.2)
theorem heldArmS_all {us : List U} (h : us.length ≤ big ∧ ∀ x ∈ us, wt (.st 3) x) : PHe 138 (.sl 11 us) := (heldArmExpr_grp (.sl 11 us)).1 us rfl h.1 h.2
theorem heldExprS_all {us : List U} (h : us.length ≤ big ∧ ∀ x ∈ us, wt (.st 4) x) : PHe 137 (.sl 9 us) := (heldArmExpr_grp (.sl 9 us)).2 us rfl h.1 h.2
set_option maxRecDepth 8000 in
set_option maxHeartbeats 8000000 in
theorem heldSignatureS_step {us : List U} (hl : us.length ≤ big) (hz : ∀ a ∈ us, wt (.st 5) a) (ih0 : ∀ (a_0 : List UInt8) (a_1 : List U) (a_2_0 : Int) (a_2_1 : List UInt8) (a_2_2 : List U) (a_3 : Bool) (a_4 : List U) (a_5_0 : Int) (a_5_1 : List UInt8) (a_5_2 : List UInt8) (a_5_3 : Int) (a_5_4_0 : Int) (a_5_4_1 : List UInt8) (a_5_4_2 : List U) (a_5_5 : List U) (a_5_6 : List U), .st [.s a_0, .sl 3 a_1, .st [.i .i64 a_2_0, .s a_2_1, .sl 3 a_2_2], .b a_3, .sl 1 a_4, .st [.i .i64 a_5_0, .s a_5_1, .s a_5_2, .i .i64 a_5_3, .st [.i .i64 a_5_4_0, .s a_5_4_1, .sl 3 a_5_4_2], .sl 9 a_5_5, .sl 11 a_5_6]] ∈ us → PHe 133 (.sl 3 a_1)) (ih1 : ∀ (a_0 : List UInt8) (a_1 : List U) (a_2_0 : Int) (a_2_1 : List UInt8) (a_2_2 : List U) (a_3 : Bool) (a_4 : List U) (a_5_0 : Int) (a_5_1 : List UInt8) (a_5_2 : List UInt8) (a_5_3 : Int) (a_5_4_0 : Int) (a_5_4_1 : List UInt8) (a_5_4_2 : List U) (a_5_5 : List U) (a_5_6 : List U), .st [.s a_0, .sl 3 a_1, .st [.i .i64 a_2_0, .s a_2_1, .sl 3 a_2_2], .b a_3, .sl 1 a_4, .st [.i .i64 a_5_0, .s a_5_1, .s a_5_2, .i .i64 a_5_3, .st [.i .i64 a_5_4_0, .s a_5_4_1, .sl 3 a_5_4_2], .sl 9 a_5_5, .sl 11 a_5_6]] ∈ us → PHe 133 (.sl 3 a_2_2)) (ih2 : ∀ (a_0 : List UInt8) (a_1 : List U) (a_2_0 : Int) (a_2_1 : List UInt8) (a_2_2 : List U) (a_3 : Bool) (a_4 : List U) (a_5_0 : Int) (a_5_1 : List UInt8) (a_5_2 : List UInt8) (a_5_3 : Int) (a_5_4_0 : Int) (a_5_4_1 : List UInt8) (a_5_4_2 : List U) (a_5_5 : List U) (a_5_6 : List U), .st [.s a_0, .sl 3 a_1, .st [.i .i64 a_2_0, .s a_2_1, .sl 3 a_2_2], .b a_3, .sl 1 a_4, .st [.i .i64 a_5_0, .s a_5_1, .s a_5_2, .i .i64 a_5_3, .st [.i .i64 a_5_4_0, .s a_5_4_1, .sl 3 a_5_4_2], .sl 9 a_5_5, .sl 11 a_5_6]] ∈ us → PHe 76 (.sl 1 a_4)) (ih3 : ∀ (a_0 : List UInt8) (a_1 : List U) (a_2_0 : Int) (a_2_1 : List UInt8) (a_2_2 : List U) (a_3 : Bool) (a_4 : List U) (a_5_0 : Int) (a_5_1 : List UInt8) (a_5_2 : List UInt8) (a_5_3 : Int) (a_5_4_0 : Int) (a_5_4_1 : List UInt8) (a_5_4_2 : List U) (a_5_5 : List U) (a_5_6 : List U), .st [.s a_0, .sl 3 a_1, .st [.i .i64 a_2_0, .s a_2_1, .sl 3 a_2_2], .b a_3, .sl 1 a_4, .st [.i .i64 a_5_0, .s a_5_1, .s a_5_2, .i .i64 a_5_3, .st [.i .i64 a_5_4_0, .s a_5_4_1, .sl 3 a_5_4_2], .sl 9 a_5_5, .sl 11 a_5_6]] ∈ us → PHe 133 (.sl 3 a_5_4_2)) (ih4 : ∀ (a_0 : List UInt8) (a_1 : List U) (a_2_0 : Int) (a_2_1 : List UInt8) (a_2_2 : List U) (a_3 : Bool) (a_4 : List U) (a_5_0 : Int) (a_5_1 : List UInt8) (a_5_2 : List UInt8) (a_5_3 : Int) (a_5_4_0 : Int) (a_5_4_1 : List UInt8) (a_5_4_2 : List U) (a_5_5 : List U) (a_5_6 : List U), .st [.s a_0, .sl 3 a_1, .st [.i .i64 a_2_0, .s a_2_1, .sl 3 a_2_2], .b a_3, .sl 1 a_4, .st [.i .i64 a_5_0, .s a_5_1, .s a_5_2, .i .i64 a_5_3, .st [.i .i64 a_5_4_0, .s a_5_4_1, .sl 3 a_5_4_2], .sl 9 a_5_5, .sl 11 a_5_6]] ∈ us → PHe 137 (.sl 9 a_5_5)) (ih5 : ∀ (a_0 : List UInt8) (a_1 : List U) (a_2_0 : Int) (a_2_1 : List UInt8) (a_2_2 : List U) (a_3 : Bool) (a_4 : List U) (a_5_0 : Int) (a_5_1 : List UInt8) (a_5_2 : List UInt8) (a_5_3 : Int) (a_5_4_0 : Int) (a_5_4_1 : List UInt8) (a_5_4_2 : List U) (a_5_5 : List U) (a_5_6 : List U), .st [.s a_0, .sl 3 a_1, .st [.i .i64 a_2_0, .s a_2_1, .sl 3 a_2_2], .b a_3, .sl 1 a_4, .st [.i .i64 a_5_0, .s a_5_1, .s a_5_2, .i .i64 a_5_3, .st [.i .i64 a_5_4_0, .s a_5_4_1, .sl 3 a_5_4_2], .sl 9 a_5_5, .sl 11 a_5_6]] ∈ us → PHe 138 (.sl 11 a_5_6)) : PHe 131 (.sl 16 us) := by
  intro k0 hk0 hk1
  have hlf : (U.sl 16 us).lf = U.lfs us := rfl
  rw [hlf] at hk1
  rw [big_eq] at hl
  show SpecP _ _ [.d (.sl 16 (U.mks us k0).1), .d (.i .i64 k0)] [.i .i64 (U.mks us k0).2]
  obtain ⟨ms, hms⟩ : ∃ ms, (U.mks us k0).1 = ms := ⟨_, rfl⟩
  have hml : ms.length = us.length := by rw [← hms, mks_len]
  have hel : ∀ (i : Nat) (a : U), us[i]? = some a → ms[i]? = some (a.mk (U.mks (us.take i) k0).2).1 := fun i a h => by rw [← hms]; exact mks_get h k0
  rw [hms]
  refine SpecP_intro Tryz.func131 rfl (by kernel_rfl) rfl fun A _ => ?_
  refine gGO ?_
  refine V_block ?_
  refine V_loop (α := Nat)
    (fun i => ⟨[(0, .d (.sl 16 ms)), (1, .d (.i .i64 (U.mks (us.take i) k0).2)), (5, .d (.i .i64 i))], [], Tryz.f131.ntmps⟩)
    (fun i => i ≤ us.length)
    (fun i => us.length - i) 0 ⟨rfl, ⟨⟨rfl, rfl⟩, ⟨rfl, rfl⟩, ⟨rfl, rfl⟩, trivial⟩, ⟨[], rfl⟩, rfl⟩ (by simp) ?_
  intro i hi
  refine gGO ?_
  (first | refine V_cond rfl (fun hc2 => ?_) (fun hc2 => ?_) | refine V_seq (V_cond rfl (fun hc2 => ?_) (fun hc2 => ?_)))
  · refine V_skip ?_
    simp only [decide_eq_true_eq] at hc2
    have hil : i < us.length := by omega
    obtain ⟨a, hget⟩ : ∃ a, us[i]? = some a := ⟨_, List.getElem?_eq_getElem hil⟩
    have hmem := List.mem_of_getElem? hget
    have hnext := (mks_next hget k0).2
    have hmid := lfs_mid hget
    have hsnd := mks_snd (us.take i) k0
    have hge := hel i a hget
    have hwa := hz a hmem
    obtain ⟨a_0, a_1, a_2, a_3, a_4, a_5, rfl, hwa_0, hwa_1, hwa_2, hwa_4, hwa_5⟩ := inv_Signature hwa
    obtain ⟨a_2_0, a_2_1, a_2_2, rfl, hwa_2_0, hwa_2_1, hwa_2_2⟩ := inv_Type hwa_2
    obtain ⟨a_5_0, a_5_1, a_5_2, a_5_3, a_5_4, a_5_5, a_5_6, rfl, hwa_5_0, hwa_5_1, hwa_5_2, hwa_5_3, hwa_5_4, hwa_5_5, hwa_5_6⟩ := inv_Expr hwa_5
    obtain ⟨a_5_4_0, a_5_4_1, a_5_4_2, rfl, hwa_5_4_0, hwa_5_4_1, hwa_5_4_2⟩ := inv_Type hwa_5_4
    have hlfa : ((.st [.s a_0, .sl 3 a_1, .st [.i .i64 a_2_0, .s a_2_1, .sl 3 a_2_2], .b a_3, .sl 1 a_4, .st [.i .i64 a_5_0, .s a_5_1, .s a_5_2, .i .i64 a_5_3, .st [.i .i64 a_5_4_0, .s a_5_4_1, .sl 3 a_5_4_2], .sl 9 a_5_5, .sl 11 a_5_6]]) : U).lf = 0 + 1 + U.lfs a_1 + 1 + 1 + U.lfs a_2_2 + 1 + U.lfs a_4 + 1 + 1 + 1 + 1 + 1 + 1 + U.lfs a_5_4_2 + U.lfs a_5_5 + U.lfs a_5_6 := by simp [U.lf, U.lfs] <;> omega
    rw [hlfa] at hmid
    have hkp : 0 < (U.mks (us.take i) k0).2 := by omega
    have hkb : (U.mks (us.take i) k0).2 + (0 + 1 + U.lfs a_1 + 1 + 1 + U.lfs a_2_2 + 1 + U.lfs a_4 + 1 + 1 + 1 + 1 + 1 + 1 + U.lfs a_5_4_2 + U.lfs a_5_5 + U.lfs a_5_6 : Nat) ≤ 4611686018427387904 := by omega
    clear hsnd hlfa hmid
    generalize (U.mks (us.take i) k0).2 = kk at hnext hkp hkb hge ⊢
    have hge : ms[i]? = some (.st [.s (txt (kk)), .sl 3 (U.mks a_1 (kk + 1)).1, .st [.i .i64 ((U.mks a_1 (kk + 1)).2), .s (txt ((U.mks a_1 (kk + 1)).2 + 1)), .sl 3 (U.mks a_2_2 ((U.mks a_1 (kk + 1)).2 + 1 + 1)).1], .b (((U.mks a_2_2 ((U.mks a_1 (kk + 1)).2 + 1 + 1)).2) % 3 == 0), .sl 1 (U.mks a_4 ((U.mks a_2_2 ((U.mks a_1 (kk + 1)).2 + 1 + 1)).2 + 1)).1, .st [.i .i64 ((U.mks a_4 ((U.mks a_2_2 ((U.mks a_1 (kk + 1)).2 + 1 + 1)).2 + 1)).2), .s (txt ((U.mks a_4 ((U.mks a_2_2 ((U.mks a_1 (kk + 1)).2 + 1 + 1)).2 + 1)).2 + 1)), .s (txt ((U.mks a_4 ((U.mks a_2_2 ((U.mks a_1 (kk + 1)).2 + 1 + 1)).2 + 1)).2 + 1 + 1)), .i .i64 ((U.mks a_4 ((U.mks a_2_2 ((U.mks a_1 (kk + 1)).2 + 1 + 1)).2 + 1)).2 + 1 + 1 + 1), .st [.i .i64 ((U.mks a_4 ((U.mks a_2_2 ((U.mks a_1 (kk + 1)).2 + 1 + 1)).2 + 1)).2 + 1 + 1 + 1 + 1), .s (txt ((U.mks a_4 ((U.mks a_2_2 ((U.mks a_1 (kk + 1)).2 + 1 + 1)).2 + 1)).2 + 1 + 1 + 1 + 1 + 1)), .sl 3 (U.mks a_5_4_2 ((U.mks a_4 ((U.mks a_2_2 ((U.mks a_1 (kk + 1)).2 + 1 + 1)).2 + 1)).2 + 1 + 1 + 1 + 1 + 1 + 1)).1], .sl 9 (U.mks a_5_5 ((U.mks a_5_4_2 ((U.mks a_4 ((U.mks a_2_2 ((U.mks a_1 (kk + 1)).2 + 1 + 1)).2 + 1)).2 + 1 + 1 + 1 + 1 + 1 + 1)).2)).1, .sl 11 (U.mks a_5_6 ((U.mks a_5_5 ((U.mks a_5_4_2 ((U.mks a_4 ((U.mks a_2_2 ((U.mks a_1 (kk + 1)).2 + 1 + 1)).2 + 1)).2 + 1 + 1 + 1 + 1 + 1 + 1)).2)).2)).1]]) := hge
    refine V_seq (V_block ?_)
    have ht0 := markText_all (kk) (by omega) (by omega)
    repeat (first | refine gGP ?_ | refine qO (Q_index rfl rfl TE.h TI.h (by omega) hge) ?_ | refine qQ (Q_index rfl rfl TE.h TI.h (by omega) hge) ?_ | refine qO (Q_call rfl ht0 vA) ?_ | refine qQ (Q_call rfl ht0 vA) ?_)
    (first | refine V_cond rfl (fun hc3 => ?_) (fun hc3 => ?_) | refine V_seq (V_cond rfl (fun hc3 => ?_) (fun hc3 => ?_)))
    · simp at hc3
    refine V_skip ?_
    clear hc3
    have hm1 := ih0 a_0 a_1 a_2_0 a_2_1 a_2_2 a_3 a_4 a_5_0 a_5_1 a_5_2 a_5_3 a_5_4_0 a_5_4_1 a_5_4_2 a_5_5 a_5_6 hmem (kk + 1) (by omega) (by simp only [U.lf]; omega)
    change SpecP _ _ [.d (.sl 3 (U.mks a_1 (kk + 1)).1), _] [.i .i64 (U.mks a_1 (kk + 1)).2] at hm1
    have hs1 := mks_snd a_1 (kk + 1)
    repeat (first | refine gGP ?_ | refine qO (Q_index rfl rfl TE.h TI.h (by omega) hge) ?_ | refine qQ (Q_index rfl rfl TE.h TI.h (by omega) hge) ?_ | refine qO (Q_call rfl hm1 vA) ?_ | refine qQ (Q_call rfl hm1 vA) ?_)
    (first | refine V_cond rfl (fun hc3 => ?_) (fun hc3 => ?_) | refine V_seq (V_cond rfl (fun hc3 => ?_) (fun hc3 => ?_)))
    · exfalso; simp only [decide_eq_true_eq] at hc3; change (U.mks a_1 (kk + 1)).2 < 0 at hc3; omega
    refine V_skip ?_
    clear hc3
    repeat (first | refine gGP ?_ | refine qO (Q_index rfl rfl TE.h TI.h (by omega) hge) ?_ | refine qQ (Q_index rfl rfl TE.h TI.h (by omega) hge) ?_)
    (first | refine V_cond rfl (fun hc3 => ?_) (fun hc3 => ?_) | refine V_seq (V_cond rfl (fun hc3 => ?_) (fun hc3 => ?_)))
    · simp at hc3
    refine V_skip ?_
    clear hc3
    have ht3 := markText_all ((U.mks a_1 (kk + 1)).2 + 1) (by omega) (by omega)
    repeat (first | refine gGP ?_ | refine qO (Q_index rfl rfl TE.h TI.h (by omega) hge) ?_ | refine qQ (Q_index rfl rfl TE.h TI.h (by omega) hge) ?_ | refine qO (Q_call rfl ht3 vA) ?_ | refine qQ (Q_call rfl ht3 vA) ?_)
    (first | refine V_cond rfl (fun hc3 => ?_) (fun hc3 => ?_) | refine V_seq (V_cond rfl (fun hc3 => ?_) (fun hc3 => ?_)))
    · simp at hc3
    refine V_skip ?_
    clear hc3
    have hm4 := ih1 a_0 a_1 a_2_0 a_2_1 a_2_2 a_3 a_4 a_5_0 a_5_1 a_5_2 a_5_3 a_5_4_0 a_5_4_1 a_5_4_2 a_5_5 a_5_6 hmem ((U.mks a_1 (kk + 1)).2 + 1 + 1) (by omega) (by simp only [U.lf]; omega)
    change SpecP _ _ [.d (.sl 3 (U.mks a_2_2 ((U.mks a_1 (kk + 1)).2 + 1 + 1)).1), _] [.i .i64 (U.mks a_2_2 ((U.mks a_1 (kk + 1)).2 + 1 + 1)).2] at hm4
    have hs4 := mks_snd a_2_2 ((U.mks a_1 (kk + 1)).2 + 1 + 1)
    repeat (first | refine gGP ?_ | refine qO (Q_index rfl rfl TE.h TI.h (by omega) hge) ?_ | refine qQ (Q_index rfl rfl TE.h TI.h (by omega) hge) ?_ | refine qO (Q_call rfl hm4 vA) ?_ | refine qQ (Q_call rfl hm4 vA) ?_)
    (first | refine V_cond rfl (fun hc3 => ?_) (fun hc3 => ?_) | refine V_seq (V_cond rfl (fun hc3 => ?_) (fun hc3 => ?_)))
    · exfalso; simp only [decide_eq_true_eq] at hc3; change (U.mks a_2_2 ((U.mks a_1 (kk + 1)).2 + 1 + 1)).2 < 0 at hc3; omega
    refine V_skip ?_
    clear hc3
    repeat (first | refine gGP ?_ | refine qO (Q_index rfl rfl TE.h TI.h (by omega) hge) ?_ | refine qQ (Q_index rfl rfl TE.h TI.h (by omega) hge) ?_ | refine qO (Q_remI (m := (U.mks a_2_2 ((U.mks a_1 (kk + 1)).2 + 1 + 1)).2) (by omega)) ?_ | refine qQ (Q_remI (m := (U.mks a_2_2 ((U.mks a_1 (kk + 1)).2 + 1 + 1)).2) (by omega)) ?_)
    (first | refine V_cond rfl (fun hc3 => ?_) (fun hc3 => ?_) | refine V_seq (V_cond rfl (fun hc3 => ?_) (fun hc3 => ?_)))
    · simp at hc3
    refine V_skip ?_
    clear hc3
    have hm6 := ih2 a_0 a_1 a_2_0 a_2_1 a_2_2 a_3 a_4 a_5_0 a_5_1 a_5_2 a_5_3 a_5_4_0 a_5_4_1 a_5_4_2 a_5_5 a_5_6 hmem ((U.mks a_2_2 ((U.mks a_1 (kk + 1)).2 + 1 + 1)).2 + 1) (by omega) (by simp only [U.lf]; omega)
    change SpecP _ _ [.d (.sl 1 (U.mks a_4 ((U.mks a_2_2 ((U.mks a_1 (kk + 1)).2 + 1 + 1)).2 + 1)).1), _] [.i .i64 (U.mks a_4 ((U.mks a_2_2 ((U.mks a_1 (kk + 1)).2 + 1 + 1)).2 + 1)).2] at hm6
    have hs6 := mks_snd a_4 ((U.mks a_2_2 ((U.mks a_1 (kk + 1)).2 + 1 + 1)).2 + 1)
    repeat (first | refine gGP ?_ | refine qO (Q_index rfl rfl TE.h TI.h (by omega) hge) ?_ | refine qQ (Q_index rfl rfl TE.h TI.h (by omega) hge) ?_ | refine qO (Q_call rfl hm6 vA) ?_ | refine qQ (Q_call rfl hm6 vA) ?_)
    (first | refine V_cond rfl (fun hc3 => ?_) (fun hc3 => ?_) | refine V_seq (V_cond rfl (fun hc3 => ?_) (fun hc3 => ?_)))
    · exfalso; simp only [decide_eq_true_eq] at hc3; change (U.mks a_4 ((U.mks a_2_2 ((U.mks a_1 (kk + 1)).2 + 1 + 1)).2 + 1)).2 < 0 at hc3; omega
    refine V_skip ?_
    clear hc3
    repeat (first | refine gGP ?_ | refine qO (Q_index rfl rfl TE.h TI.h (by omega) hge) ?_ | refine qQ (Q_index rfl rfl TE.h TI.h (by omega) hge) ?_)
    (first | refine V_cond rfl (fun hc3 => ?_) (fun hc3 => ?_) | refine V_seq (V_cond rfl (fun hc3 => ?_) (fun hc3 => ?_)))
    · simp at hc3
    refine V_skip ?_
    clear hc3
    have ht8 := markText_all ((U.mks a_4 ((U.mks a_2_2 ((U.mks a_1 (kk + 1)).2 + 1 + 1)).2 + 1)).2 + 1) (by omega) (by omega)
    repeat (first | refine gGP ?_ | refine qO (Q_index rfl rfl TE.h TI.h (by omega) hge) ?_ | refine qQ (Q_index rfl rfl TE.h TI.h (by omega) hge) ?_ | refine qO (Q_call rfl ht8 vA) ?_ | refine qQ (Q_call rfl ht8 vA) ?_)
    (first | refine V_cond rfl (fun hc3 => ?_) (fun hc3 => ?_) | refine V_seq (V_cond rfl (fun hc3 => ?_) (fun hc3 => ?_)))
    · simp at hc3
    refine V_skip ?_
    clear hc3
    have ht9 := markText_all ((U.mks a_4 ((U.mks a_2_2 ((U.mks a_1 (kk + 1)).2 + 1 + 1)).2 + 1)).2 + 1 + 1) (by omega) (by omega)
    repeat (first | refine gGP ?_ | refine qO (Q_index rfl rfl TE.h TI.h (by omega) hge) ?_ | refine qQ (Q_index rfl rfl TE.h TI.h (by omega) hge) ?_ | refine qO (Q_call rfl ht9 vA) ?_ | refine qQ (Q_call rfl ht9 vA) ?_)
    (first | refine V_cond rfl (fun hc3 => ?_) (fun hc3 => ?_) | refine V_seq (V_cond rfl (fun hc3 => ?_) (fun hc3 => ?_)))
    · simp at hc3
    refine V_skip ?_
    clear hc3
    repeat (first | refine gGP ?_ | refine qO (Q_index rfl rfl TE.h TI.h (by omega) hge) ?_ | refine qQ (Q_index rfl rfl TE.h TI.h (by omega) hge) ?_)
    (first | refine V_cond rfl (fun hc3 => ?_) (fun hc3 => ?_) | refine V_seq (V_cond rfl (fun hc3 => ?_) (fun hc3 => ?_)))
    · simp at hc3
    refine V_skip ?_
    clear hc3
    repeat (first | refine gGP ?_ | refine qO (Q_index rfl rfl TE.h TI.h (by omega) hge) ?_ | refine qQ (Q_index rfl rfl TE.h TI.h (by omega) hge) ?_)
    (first | refine V_cond rfl (fun hc3 => ?_) (fun hc3 => ?_) | refine V_seq (V_cond rfl (fun hc3 => ?_) (fun hc3 => ?_)))
    · simp at hc3
    refine V_skip ?_
    clear hc3
    have ht12 := markText_all ((U.mks a_4 ((U.mks a_2_2 ((U.mks a_1 (kk + 1)).2 + 1 + 1)).2 + 1)).2 + 1 + 1 + 1 + 1 + 1) (by omega) (by omega)
    repeat (first | refine gGP ?_ | refine qO (Q_index rfl rfl TE.h TI.h (by omega) hge) ?_ | refine qQ (Q_index rfl rfl TE.h TI.h (by omega) hge) ?_ | refine qO (Q_call rfl ht12 vA) ?_ | refine qQ (Q_call rfl ht12 vA) ?_)
    (first | refine V_cond rfl (fun hc3 => ?_) (fun hc3 => ?_) | refine V_seq (V_cond rfl (fun hc3 => ?_) (fun hc3 => ?_)))
    · simp at hc3
    refine V_skip ?_
    clear hc3
    have hm13 := ih3 a_0 a_1 a_2_0 a_2_1 a_2_2 a_3 a_4 a_5_0 a_5_1 a_5_2 a_5_3 a_5_4_0 a_5_4_1 a_5_4_2 a_5_5 a_5_6 hmem ((U.mks a_4 ((U.mks a_2_2 ((U.mks a_1 (kk + 1)).2 + 1 + 1)).2 + 1)).2 + 1 + 1 + 1 + 1 + 1 + 1) (by omega) (by simp only [U.lf]; omega)
    change SpecP _ _ [.d (.sl 3 (U.mks a_5_4_2 ((U.mks a_4 ((U.mks a_2_2 ((U.mks a_1 (kk + 1)).2 + 1 + 1)).2 + 1)).2 + 1 + 1 + 1 + 1 + 1 + 1)).1), _] [.i .i64 (U.mks a_5_4_2 ((U.mks a_4 ((U.mks a_2_2 ((U.mks a_1 (kk + 1)).2 + 1 + 1)).2 + 1)).2 + 1 + 1 + 1 + 1 + 1 + 1)).2] at hm13
    have hs13 := mks_snd a_5_4_2 ((U.mks a_4 ((U.mks a_2_2 ((U.mks a_1 (kk + 1)).2 + 1 + 1)).2 + 1)).2 + 1 + 1 + 1 + 1 + 1 + 1)
    repeat (first | refine gGP ?_ | refine qO (Q_index rfl rfl TE.h TI.h (by omega) hge) ?_ | refine qQ (Q_index rfl rfl TE.h TI.h (by omega) hge) ?_ | refine qO (Q_call rfl hm13 vA) ?_ | refine qQ (Q_call rfl hm13 vA) ?_)
    (first | refine V_cond rfl (fun hc3 => ?_) (fun hc3 => ?_) | refine V_seq (V_cond rfl (fun hc3 => ?_) (fun hc3 => ?_)))
    · exfalso; simp only [decide_eq_true_eq] at hc3; change (U.mks a_5_4_2 ((U.mks a_4 ((U.mks a_2_2 ((U.mks a_1 (kk + 1)).2 + 1 + 1)).2 + 1)).2 + 1 + 1 + 1 + 1 + 1 + 1)).2 < 0 at hc3; omega
    refine V_skip ?_
    clear hc3
    have hm14 := ih4 a_0 a_1 a_2_0 a_2_1 a_2_2 a_3 a_4 a_5_0 a_5_1 a_5_2 a_5_3 a_5_4_0 a_5_4_1 a_5_4_2 a_5_5 a_5_6 hmem ((U.mks a_5_4_2 ((U.mks a_4 ((U.mks a_2_2 ((U.mks a_1 (kk + 1)).2 + 1 + 1)).2 + 1)).2 + 1 + 1 + 1 + 1 + 1 + 1)).2) (by omega) (by simp only [U.lf]; omega)
    change SpecP _ _ [.d (.sl 9 (U.mks a_5_5 ((U.mks a_5_4_2 ((U.mks a_4 ((U.mks a_2_2 ((U.mks a_1 (kk + 1)).2 + 1 + 1)).2 + 1)).2 + 1 + 1 + 1 + 1 + 1 + 1)).2)).1), _] [.i .i64 (U.mks a_5_5 ((U.mks a_5_4_2 ((U.mks a_4 ((U.mks a_2_2 ((U.mks a_1 (kk + 1)).2 + 1 + 1)).2 + 1)).2 + 1 + 1 + 1 + 1 + 1 + 1)).2)).2] at hm14
    have hs14 := mks_snd a_5_5 ((U.mks a_5_4_2 ((U.mks a_4 ((U.mks a_2_2 ((U.mks a_1 (kk + 1)).2 + 1 + 1)).2 + 1)).2 + 1 + 1 + 1 + 1 + 1 + 1)).2)
    repeat (first | refine gGP ?_ | refine qO (Q_index rfl rfl TE.h TI.h (by omega) hge) ?_ | refine qQ (Q_index rfl rfl TE.h TI.h (by omega) hge) ?_ | refine qO (Q_call rfl hm14 vA) ?_ | refine qQ (Q_call rfl hm14 vA) ?_)
    (first | refine V_cond rfl (fun hc3 => ?_) (fun hc3 => ?_) | refine V_seq (V_cond rfl (fun hc3 => ?_) (fun hc3 => ?_)))
    · exfalso; simp only [decide_eq_true_eq] at hc3; change (U.mks a_5_5 ((U.mks a_5_4_2 ((U.mks a_4 ((U.mks a_2_2 ((U.mks a_1 (kk + 1)).2 + 1 + 1)).2 + 1)).2 + 1 + 1 + 1 + 1 + 1 + 1)).2)).2 < 0 at hc3; omega
    refine V_skip ?_
    clear hc3
    have hm15 := ih5 a_0 a_1 a_2_0 a_2_1 a_2_2 a_3 a_4 a_5_0 a_5_1 a_5_2 a_5_3 a_5_4_0 a_5_4_1 a_5_4_2 a_5_5 a_5_6 hmem ((U.mks a_5_5 ((U.mks a_5_4_2 ((U.mks a_4 ((U.mks a_2_2 ((U.mks a_1 (kk + 1)).2 + 1 + 1)).2 + 1)).2 + 1 + 1 + 1 + 1 + 1 + 1)).2)).2) (by omega) (by simp only [U.lf]; omega)
    change SpecP _ _ [.d (.sl 11 (U.mks a_5_6 ((U.mks a_5_5 ((U.mks a_5_4_2 ((U.mks a_4 ((U.mks a_2_2 ((U.mks a_1 (kk + 1)).2 + 1 + 1)).2 + 1)).2 + 1 + 1 + 1 + 1 + 1 + 1)).2)).2)).1), _] [.i .i64 (U.mks a_5_6 ((U.mks a_5_5 ((U.mks a_5_4_2 ((U.mks a_4 ((U.mks a_2_2 ((U.mks a_1 (kk + 1)).2 + 1 + 1)).2 + 1)).2 + 1 + 1 + 1 + 1 + 1 + 1)).2)).2)).2] at hm15
    have hs15 := mks_snd a_5_6 ((U.mks a_5_5 ((U.mks a_5_4_2 ((U.mks a_4 ((U.mks a_2_2 ((U.mks a_1 (kk + 1)).2 + 1 + 1)).2 + 1)).2 + 1 + 1 + 1 + 1 + 1 + 1)).2)).2)
    repeat (first | refine gGP ?_ | refine qO (Q_index rfl rfl TE.h TI.h (by omega) hge) ?_ | refine qQ (Q_index rfl rfl TE.h TI.h (by omega) hge) ?_ | refine qO (Q_call rfl hm15 vA) ?_ | refine qQ (Q_call rfl hm15 vA) ?_)
    (first | refine V_cond rfl (fun hc3 => ?_) (fun hc3 => ?_) | refine V_seq (V_cond rfl (fun hc3 => ?_) (fun hc3 => ?_)))
    · exfalso; simp only [decide_eq_true_eq] at hc3; change (U.mks a_5_6 ((U.mks a_5_5 ((U.mks a_5_4_2 ((U.mks a_4 ((U.mks a_2_2 ((U.mks a_1 (kk + 1)).2 + 1 + 1)).2 + 1)).2 + 1 + 1 + 1 + 1 + 1 + 1)).2)).2)).2 < 0 at hc3; omega
    refine V_skip ?_
    clear hc3
    refine gGO ?_
    refine ⟨i + 1, by omega, by omega, ⟨rfl, ⟨⟨rfl, rfl⟩, ⟨?_, rfl⟩, ⟨rfl, rfl⟩, trivial⟩, ⟨[], rfl⟩, rfl⟩⟩
    rw [hnext]
    rfl
  · refine V_exit ?_
    simp only [decide_eq_false_iff_not] at hc2
    have hkl : i = us.length := by omega
    subst hkl
    show V _ _ _ _ _
    refine gGO ?_
    refine V_ret ?_
    refine ⟨trivial, ⟨_, rfl, ?_⟩, trivial⟩
    rw [List.take_length]
    exact rfl
theorem heldSignature_grp (u : U) : (∀ us, u = .sl 16 us → us.length ≤ big → (∀ x ∈ us, wt (.st 5) x) → PHe 131 u) := by
  refine U.ind (M := fun u => (∀ us, u = .sl 16 us → us.length ≤ big → (∀ x ∈ us, wt (.st 5) x) → PHe 131 u)) (fun u ih => ?_) u
  refine ?_
  · rintro us rfl hl hz
    exact heldSignatureS_step hl hz (fun a_0 a_1 a_2_0 a_2_1 a_2_2 a_3 a_4 a_5_0 a_5_1 a_5_2 a_5_3 a_5_4_0 a_5_4_1 a_5_4_2 a_5_5 a_5_6 ha => by obtain ⟨_, _, _, _, _, _, hx_a, qa_0, qa_1, qa_2, qa_4, qa_5⟩ := inv_Signature (hz _ ha); cases hx_a; obtain ⟨_, _, _, hx_a_2, qa_2_0, qa_2_1, qa_2_2⟩ := inv_Type qa_2; cases hx_a_2; obtain ⟨_, _, _, _, _, _, _, hx_a_5, qa_5_0, qa_5_1, qa_5_2, qa_5_3, qa_5_4, qa_5_5, qa_5_6⟩ := inv_Expr qa_5; cases hx_a_5; obtain ⟨_, _, _, hx_a_5_4, qa_5_4_0, qa_5_4_1, qa_5_4_2⟩ := inv_Type qa_5_4; cases hx_a_5_4; exact heldTypeS_all qa_1) (fun a_0 a_1 a_2_0 a_2_1 a_2_2 a_3 a_4 a_5_0 a_5_1 a_5_2 a_5_3 a_5_4_0 a_5_4_1 a_5_4_2 a_5_5 a_5_6 ha => by obtain ⟨_, _, _, _, _, _, hx_a, qa_0, qa_1, qa_2, qa_4, qa_5⟩ := inv_Signature (hz _ ha); cases hx_a; obtain ⟨_, _, _, hx_a_2, qa_2_0, qa_2_1, qa_2_2⟩ := inv_Type qa_2; cases hx_a_2; obtain ⟨_, _, _, _, _, _, _, hx_a_5, qa_5_0, qa_5_1, qa_5_2, qa_5_3, qa_5_4, qa_5_5, qa_5_6⟩ := inv_Expr qa_5; cases hx_a_5; obtain ⟨_, _, _, hx_a_5_4, qa_5_4_0, qa_5_4_1, qa_5_4_2⟩ := inv_Type qa_5_4; cases hx_a_5_4; exact heldTypeS_all qa_2_2) (fun a_0 a_1 a_2_0 a_2_1 a_2_2 a_3 a_4 a_5_0 a_5_1 a_5_2 a_5_3 a_5_4_0 a_5_4_1 a_5_4_2 a_5_5 a_5_6 ha => by obtain ⟨_, _, _, _, _, _, hx_a, qa_0, qa_1, qa_2, qa_4, qa_5⟩ := inv_Signature (hz _ ha); cases hx_a; obtain ⟨_, _, _, hx_a_2, qa_2_0, qa_2_1, qa_2_2⟩ := inv_Type qa_2; cases hx_a_2; obtain ⟨_, _, _, _, _, _, _, hx_a_5, qa_5_0, qa_5_1, qa_5_2, qa_5_3, qa_5_4, qa_5_5, qa_5_6⟩ := inv_Expr qa_5; cases hx_a_5; obtain ⟨_, _, _, hx_a_5_4, qa_5_4_0, qa_5_4_1, qa_5_4_2⟩ := inv_Type qa_5_4; cases hx_a_5_4; exact heldStringS_all qa_4) (fun a_0 a_1 a_2_0 a_2_1 a_2_2 a_3 a_4 a_5_0 a_5_1 a_5_2 a_5_3 a_5_4_0 a_5_4_1 a_5_4_2 a_5_5 a_5_6 ha => by obtain ⟨_, _, _, _, _, _, hx_a, qa_0, qa_1, qa_2, qa_4, qa_5⟩ := inv_Signature (hz _ ha); cases hx_a; obtain ⟨_, _, _, hx_a_2, qa_2_0, qa_2_1, qa_2_2⟩ := inv_Type qa_2; cases hx_a_2; obtain ⟨_, _, _, _, _, _, _, hx_a_5, qa_5_0, qa_5_1, qa_5_2, qa_5_3, qa_5_4, qa_5_5, qa_5_6⟩ := inv_Expr qa_5; cases hx_a_5; obtain ⟨_, _, _, hx_a_5_4, qa_5_4_0, qa_5_4_1, qa_5_4_2⟩ := inv_Type qa_5_4; cases hx_a_5_4; exact heldTypeS_all qa_5_4_2) (fun a_0 a_1 a_2_0 a_2_1 a_2_2 a_3 a_4 a_5_0 a_5_1 a_5_2 a_5_3 a_5_4_0 a_5_4_1 a_5_4_2 a_5_5 a_5_6 ha => by obtain ⟨_, _, _, _, _, _, hx_a, qa_0, qa_1, qa_2, qa_4, qa_5⟩ := inv_Signature (hz _ ha); cases hx_a; obtain ⟨_, _, _, hx_a_2, qa_2_0, qa_2_1, qa_2_2⟩ := inv_Type qa_2; cases hx_a_2; obtain ⟨_, _, _, _, _, _, _, hx_a_5, qa_5_0, qa_5_1, qa_5_2, qa_5_3, qa_5_4, qa_5_5, qa_5_6⟩ := inv_Expr qa_5; cases hx_a_5; obtain ⟨_, _, _, hx_a_5_4, qa_5_4_0, qa_5_4_1, qa_5_4_2⟩ := inv_Type qa_5_4; cases hx_a_5_4; exact heldExprS_all qa_5_5) (fun a_0 a_1 a_2_0 a_2_1 a_2_2 a_3 a_4 a_5_0 a_5_1 a_5_2 a_5_3 a_5_4_0 a_5_4_1 a_5_4_2 a_5_5 a_5_6 ha => by obtain ⟨_, _, _, _, _, _, hx_a, qa_0, qa_1, qa_2, qa_4, qa_5⟩ := inv_Signature (hz _ ha); cases hx_a; obtain ⟨_, _, _, hx_a_2, qa_2_0, qa_2_1, qa_2_2⟩ := inv_Type qa_2; cases hx_a_2; obtain ⟨_, _, _, _, _, _, _, hx_a_5, qa_5_0, qa_5_1, qa_5_2, qa_5_3, qa_5_4, qa_5_5, qa_5_6⟩ := inv_Expr qa_5; cases hx_a_5; obtain ⟨_, _, _, hx_a_5_4, qa_5_4_0, qa_5_4_1, qa_5_4_2⟩ := inv_Type qa_5_4; cases hx_a_5_4; exact heldArmS_all qa_5_6)
theorem heldSignatureS_all {us : List U} (h : us.length ≤ big ∧ ∀ x ∈ us, wt (.st 5) x) : PHe 131 (.sl 16 us) := (heldSignature_grp (.sl 16 us)) us rfl h.1 h.2
set_option maxRecDepth 8000 in
set_option maxHeartbeats 8000000 in
theorem heldTraitS_step {us : List U} (hl : us.length ≤ big) (hz : ∀ a ∈ us, wt (.st 6) a) (ih0 : ∀ (a_0 : List UInt8) (a_1 : List U) (a_2 : Bool) (a_3 : Bool) (a_4 : List U), .st [.s a_0, .sl 1 a_1, .b a_2, .b a_3, .sl 16 a_4] ∈ us → PHe 76 (.sl 1 a_1)) (ih1 : ∀ (a_0 : List UInt8) (a_1 : List U) (a_2 : Bool) (a_3 : Bool) (a_4 : List U), .st [.s a_0, .sl 1 a_1, .b a_2, .b a_3, .sl 16 a_4] ∈ us → PHe 131 (.sl 16 a_4)) : PHe 77 (.sl 5 us) := by
  intro k0 hk0 hk1
  have hlf : (U.sl 5 us).lf = U.lfs us := rfl
  rw [hlf] at hk1
  rw [big_eq] at hl
  show SpecP _ _ [.d (.sl 5 (U.mks us k0).1), .d (.i .i64 k0)] [.i .i64 (U.mks us k0).2]
  obtain ⟨ms, hms⟩ : ∃ ms, (U.mks us k0).1 = ms := ⟨_, rfl⟩
  have hml : ms.length = us.length := by rw [← hms, mks_len]
  have hel : ∀ (i : Nat) (a : U), us[i]? = some a → ms[i]? = some (a.mk (U.mks (us.take i) k0).2).1 := fun i a h => by rw [← hms]; exact mks_get h k0
  rw [hms]
  refine SpecP_intro Tryz.func77 rfl (by kernel_rfl) rfl fun A _ => ?_
  refine gGO ?_
  refine V_block ?_
  refine V_loop (α := Nat)
    (fun i => ⟨[(0, .d (.sl 5 ms)), (1, .d (.i .i64 (U.mks (us.take i) k0).2)), (5, .d (.i .i64 i))], [], Tryz.f77.ntmps⟩)
    (fun i => i ≤ us.length)
    (fun i => us.length - i) 0 ⟨rfl, ⟨⟨rfl, rfl⟩, ⟨rfl, rfl⟩, ⟨rfl, rfl⟩, trivial⟩, ⟨[], rfl⟩, rfl⟩ (by simp) ?_
  intro i hi
  refine gGO ?_
  (first | refine V_cond rfl (fun hc2 => ?_) (fun hc2 => ?_) | refine V_seq (V_cond rfl (fun hc2 => ?_) (fun hc2 => ?_)))
  · refine V_skip ?_
    simp only [decide_eq_true_eq] at hc2
    have hil : i < us.length := by omega
    obtain ⟨a, hget⟩ : ∃ a, us[i]? = some a := ⟨_, List.getElem?_eq_getElem hil⟩
    have hmem := List.mem_of_getElem? hget
    have hnext := (mks_next hget k0).2
    have hmid := lfs_mid hget
    have hsnd := mks_snd (us.take i) k0
    have hge := hel i a hget
    have hwa := hz a hmem
    obtain ⟨a_0, a_1, a_2, a_3, a_4, rfl, hwa_0, hwa_1, hwa_4⟩ := inv_Trait hwa
    have hlfa : ((.st [.s a_0, .sl 1 a_1, .b a_2, .b a_3, .sl 16 a_4]) : U).lf = 0 + 1 + U.lfs a_1 + 1 + 1 + U.lfs a_4 := by simp [U.lf, U.lfs] <;> omega
    rw [hlfa] at hmid
    have hkp : 0 < (U.mks (us.take i) k0).2 := by omega
    have hkb : (U.mks (us.take i) k0).2 + (0 + 1 + U.lfs a_1 + 1 + 1 + U.lfs a_4 : Nat) ≤ 4611686018427387904 := by omega
    clear hsnd hlfa hmid
    generalize (U.mks (us.take i) k0).2 = kk at hnext hkp hkb hge ⊢
    have hge : ms[i]? = some (.st [.s (txt (kk)), .sl 1 (U.mks a_1 (kk + 1)).1, .b (((U.mks a_1 (kk + 1)).2) % 3 == 0), .b (((U.mks a_1 (kk + 1)).2 + 1) % 3 == 0), .sl 16 (U.mks a_4 ((U.mks a_1 (kk + 1)).2 + 1 + 1)).1]) := hge
    refine V_seq (V_block ?_)
    have ht0 := markText_all (kk) (by omega) (by omega)
    repeat (first | refine gGP ?_ | refine qO (Q_index rfl rfl TE.h TI.h (by omega) hge) ?_ | refine qQ (Q_index rfl rfl TE.h TI.h (by omega) hge) ?_ | refine qO (Q_call rfl ht0 vA) ?_ | refine qQ (Q_call rfl ht0 vA) ?_)
    (first | refine V_cond rfl (fun hc3 => ?_) (fun hc3 => ?_) | refine V_seq (V_cond rfl (fun hc3 => ?_) (fun hc3 => ?_)))
    · simp at hc3
    refine V_skip ?_
    clear hc3
    have hm1 := ih0 a_0 a_1 a_2 a_3 a_4 hmem (kk + 1) (by omega) (by simp only [U.lf]; omega)
    change SpecP _ _ [.d (.sl 1 (U.mks a_1 (kk + 1)).1), _] [.i .i64 (U.mks a_1 (kk + 1)).2] at hm1
    have hs1 := mks_snd a_1 (kk + 1)
    repeat (first | refine gGP ?_ | refine qO (Q_index rfl rfl TE.h TI.h (by omega) hge) ?_ | refine qQ (Q_index rfl rfl TE.h TI.h (by omega) hge) ?_ | refine qO (Q_call rfl hm1 vA) ?_ | refine qQ (Q_call rfl hm1 vA) ?_)
    (first | refine V_cond rfl (fun hc3 => ?_) (fun hc3 => ?_) | refine V_seq (V_cond rfl (fun hc3 => ?_) (fun hc3 => ?_)))
    · exfalso; simp only [decide_eq_true_eq] at hc3; change (U.mks a_1 (kk + 1)).2 < 0 at hc3; omega
    refine V_skip ?_
    clear hc3
    repeat (first | refine gGP ?_ | refine qO (Q_index rfl rfl TE.h TI.h (by omega) hge) ?_ | refine qQ (Q_index rfl rfl TE.h TI.h (by omega) hge) ?_ | refine qO (Q_remI (m := (U.mks a_1 (kk + 1)).2) (by omega)) ?_ | refine qQ (Q_remI (m := (U.mks a_1 (kk + 1)).2) (by omega)) ?_)
    (first | refine V_cond rfl (fun hc3 => ?_) (fun hc3 => ?_) | refine V_seq (V_cond rfl (fun hc3 => ?_) (fun hc3 => ?_)))
    · simp at hc3
    refine V_skip ?_
    clear hc3
    repeat (first | refine gGP ?_ | refine qO (Q_index rfl rfl TE.h TI.h (by omega) hge) ?_ | refine qQ (Q_index rfl rfl TE.h TI.h (by omega) hge) ?_ | refine qO (Q_remI (m := (U.mks a_1 (kk + 1)).2 + 1) (by omega)) ?_ | refine qQ (Q_remI (m := (U.mks a_1 (kk + 1)).2 + 1) (by omega)) ?_)
    (first | refine V_cond rfl (fun hc3 => ?_) (fun hc3 => ?_) | refine V_seq (V_cond rfl (fun hc3 => ?_) (fun hc3 => ?_)))
    · simp at hc3
    refine V_skip ?_
    clear hc3
    have hm4 := ih1 a_0 a_1 a_2 a_3 a_4 hmem ((U.mks a_1 (kk + 1)).2 + 1 + 1) (by omega) (by simp only [U.lf]; omega)
    change SpecP _ _ [.d (.sl 16 (U.mks a_4 ((U.mks a_1 (kk + 1)).2 + 1 + 1)).1), _] [.i .i64 (U.mks a_4 ((U.mks a_1 (kk + 1)).2 + 1 + 1)).2] at hm4
    have hs4 := mks_snd a_4 ((U.mks a_1 (kk + 1)).2 + 1 + 1)
    repeat (first | refine gGP ?_ | refine qO (Q_index rfl rfl TE.h TI.h (by omega) hge) ?_ | refine qQ (Q_index rfl rfl TE.h TI.h (by omega) hge) ?_ | refine qO (Q_call rfl hm4 vA) ?_ | refine qQ (Q_call rfl hm4 vA) ?_)
    (first | refine V_cond rfl (fun hc3 => ?_) (fun hc3 => ?_) | refine V_seq (V_cond rfl (fun hc3 => ?_) (fun hc3 => ?_)))
    · exfalso; simp only [decide_eq_true_eq] at hc3; change (U.mks a_4 ((U.mks a_1 (kk + 1)).2 + 1 + 1)).2 < 0 at hc3; omega
    refine V_skip ?_
    clear hc3
    refine gGO ?_
    refine ⟨i + 1, by omega, by omega, ⟨rfl, ⟨⟨rfl, rfl⟩, ⟨?_, rfl⟩, ⟨rfl, rfl⟩, trivial⟩, ⟨[], rfl⟩, rfl⟩⟩
    rw [hnext]
    rfl
  · refine V_exit ?_
    simp only [decide_eq_false_iff_not] at hc2
    have hkl : i = us.length := by omega
    subst hkl
    show V _ _ _ _ _
    refine gGO ?_
    refine V_ret ?_
    refine ⟨trivial, ⟨_, rfl, ?_⟩, trivial⟩
    rw [List.take_length]
    exact rfl
theorem heldTrait_grp (u : U) : (∀ us, u = .sl 5 us → us.length ≤ big → (∀ x ∈ us, wt (.st 6) x) → PHe 77 u) := by
  refine U.ind (M := fun u => (∀ us, u = .sl 5 us → us.length ≤ big → (∀ x ∈ us, wt (.st 6) x) → PHe 77 u)) (fun u ih => ?_) u
  refine ?_
  · rintro us rfl hl hz
    exact heldTraitS_step hl hz (fun a_0 a_1 a_2 a_3 a_4 ha => by obtain ⟨_, _, _, _, _, hx_a, qa_0, qa_1, qa_4⟩ := inv_Trait (hz _ ha); cases hx_a; exact heldStringS_all qa_1) (fun a_0 a_1 a_2 a_3 a_4 ha => by obtain ⟨_, _, _, _, _, hx_a, qa_0, qa_1, qa_4⟩ := inv_Trait (hz _ ha); cases hx_a; exact heldSignatureS_all qa_4)
theorem heldTraitS_all {us : List U} (h : us.length ≤ big ∧ ∀ x ∈ us, wt (.st 6) x) : PHe 77 (.sl 5 us) := (heldTrait_grp (.sl 5 us)) us rfl h.1 h.2
set_option maxRecDepth 8000 in
set_option maxHeartbeats 8000000 in
theorem heldConstructorS_step {us : List U} (hl : us.length ≤ big) (hz : ∀ a ∈ us, wt (.st 7) a) (ih0 : ∀ (a_0 : List UInt8) (a_1 : List U), .st [.s a_0, .sl 3 a_1] ∈ us → PHe 133 (.sl 3 a_1)) : PHe 132 (.sl 2 us) := by
  intro k0 hk0 hk1
  have hlf : (U.sl 2 us).lf = U.lfs us := rfl
  rw [hlf] at hk1
  rw [big_eq] at hl
  show SpecP _ _ [.d (.sl 2 (U.mks us k0).1), .d (.i .i64 k0)] [.i .i64 (U.mks us k0).2]
  obtain ⟨ms, hms⟩ : ∃ ms, (U.mks us k0).1 = ms := ⟨_, rfl⟩
  have hml : ms.length = us.length := by rw [← hms, mks_len]
  have hel : ∀ (i : Nat) (a : U), us[i]? = some a → ms[i]? = some (a.mk (U.mks (us.take i) k0).2).1 := fun i a h => by rw [← hms]; exact mks_get h k0
  rw [hms]
  refine SpecP_intro Tryz.func132 rfl (by kernel_rfl) rfl fun A _ => ?_
  refine gGO ?_
  refine V_block ?_
  refine V_loop (α := Nat)
    (fun i => ⟨[(0, .d (.sl 2 ms)), (1, .d (.i .i64 (U.mks (us.take i) k0).2)), (5, .d (.i .i64 i))], [], Tryz.f132.ntmps⟩)
    (fun i => i ≤ us.length)
    (fun i => us.length - i) 0 ⟨rfl, ⟨⟨rfl, rfl⟩, ⟨rfl, rfl⟩, ⟨rfl, rfl⟩, trivial⟩, ⟨[], rfl⟩, rfl⟩ (by simp) ?_
  intro i hi
  refine gGO ?_
  (first | refine V_cond rfl (fun hc2 => ?_) (fun hc2 => ?_) | refine V_seq (V_cond rfl (fun hc2 => ?_) (fun hc2 => ?_)))
  · refine V_skip ?_
    simp only [decide_eq_true_eq] at hc2
    have hil : i < us.length := by omega
    obtain ⟨a, hget⟩ : ∃ a, us[i]? = some a := ⟨_, List.getElem?_eq_getElem hil⟩
    have hmem := List.mem_of_getElem? hget
    have hnext := (mks_next hget k0).2
    have hmid := lfs_mid hget
    have hsnd := mks_snd (us.take i) k0
    have hge := hel i a hget
    have hwa := hz a hmem
    obtain ⟨a_0, a_1, rfl, hwa_0, hwa_1⟩ := inv_Constructor hwa
    have hlfa : ((.st [.s a_0, .sl 3 a_1]) : U).lf = 0 + 1 + U.lfs a_1 := by simp [U.lf, U.lfs] <;> omega
    rw [hlfa] at hmid
    have hkp : 0 < (U.mks (us.take i) k0).2 := by omega
    have hkb : (U.mks (us.take i) k0).2 + (0 + 1 + U.lfs a_1 : Nat) ≤ 4611686018427387904 := by omega
    clear hsnd hlfa hmid
    generalize (U.mks (us.take i) k0).2 = kk at hnext hkp hkb hge ⊢
    have hge : ms[i]? = some (.st [.s (txt (kk)), .sl 3 (U.mks a_1 (kk + 1)).1]) := hge
    refine V_seq (V_block ?_)
    have ht0 := markText_all (kk) (by omega) (by omega)
    repeat (first | refine gGP ?_ | refine qO (Q_index rfl rfl TE.h TI.h (by omega) hge) ?_ | refine qQ (Q_index rfl rfl TE.h TI.h (by omega) hge) ?_ | refine qO (Q_call rfl ht0 vA) ?_ | refine qQ (Q_call rfl ht0 vA) ?_)
    (first | refine V_cond rfl (fun hc3 => ?_) (fun hc3 => ?_) | refine V_seq (V_cond rfl (fun hc3 => ?_) (fun hc3 => ?_)))
    · simp at hc3
    refine V_skip ?_
    clear hc3
    have hm1 := ih0 a_0 a_1 hmem (kk + 1) (by omega) (by simp only [U.lf]; omega)
    change SpecP _ _ [.d (.sl 3 (U.mks a_1 (kk + 1)).1), _] [.i .i64 (U.mks a_1 (kk + 1)).2] at hm1
    have hs1 := mks_snd a_1 (kk + 1)
    repeat (first | refine gGP ?_ | refine qO (Q_index rfl rfl TE.h TI.h (by omega) hge) ?_ | refine qQ (Q_index rfl rfl TE.h TI.h (by omega) hge) ?_ | refine qO (Q_call rfl hm1 vA) ?_ | refine qQ (Q_call rfl hm1 vA) ?_)
    (first | refine V_cond rfl (fun hc3 => ?_) (fun hc3 => ?_) | refine V_seq (V_cond rfl (fun hc3 => ?_) (fun hc3 => ?_)))
    · exfalso; simp only [decide_eq_true_eq] at hc3; change (U.mks a_1 (kk + 1)).2 < 0 at hc3; omega
    refine V_skip ?_
    clear hc3
    refine gGO ?_
    refine ⟨i + 1, by omega, by omega, ⟨rfl, ⟨⟨rfl, rfl⟩, ⟨?_, rfl⟩, ⟨rfl, rfl⟩, trivial⟩, ⟨[], rfl⟩, rfl⟩⟩
    rw [hnext]
    rfl
  · refine V_exit ?_
    simp only [decide_eq_false_iff_not] at hc2
    have hkl : i = us.length := by omega
    subst hkl
    show V _ _ _ _ _
    refine gGO ?_
    refine V_ret ?_
    refine ⟨trivial, ⟨_, rfl, ?_⟩, trivial⟩
    rw [List.take_length]
    exact rfl
theorem heldConstructor_grp (u : U) : (∀ us, u = .sl 2 us → us.length ≤ big → (∀ x ∈ us, wt (.st 7) x) → PHe 132 u) := by
  refine U.ind (M := fun u => (∀ us, u = .sl 2 us → us.length ≤ big → (∀ x ∈ us, wt (.st 7) x) → PHe 132 u)) (fun u ih => ?_) u
  refine ?_
  · rintro us rfl hl hz
    exact heldConstructorS_step hl hz (fun a_0 a_1 ha => by obtain ⟨_, _, hx_a, qa_0, qa_1⟩ := inv_Constructor (hz _ ha); cases hx_a; exact heldTypeS_all qa_1)
theorem heldConstructorS_all {us : List U} (h : us.length ≤ big ∧ ∀ x ∈ us, wt (.st 7) x) : PHe 132 (.sl 2 us) := (heldConstructor_grp (.sl 2 us)) us rfl h.1 h.2
set_option maxRecDepth 8000 in
set_option maxHeartbeats 8000000 in
theorem heldDataTypeS_step {us : List U} (hl : us.length ≤ big) (hz : ∀ a ∈ us, wt (.st 8) a) (ih0 : ∀ (a_0 : List UInt8) (a_1 : List U) (a_2 : List U), .st [.s a_0, .sl 1 a_1, .sl 2 a_2] ∈ us → PHe 76 (.sl 1 a_1)) (ih1 : ∀ (a_0 : List UInt8) (a_1 : List U) (a_2 : List U), .st [.s a_0, .sl 1 a_1, .sl 2 a_2] ∈ us → PHe 132 (.sl 2 a_2)) : PHe 78 (.sl 3 us) := by
  intro k0 hk0 hk1
  have hlf : (U.sl 3 us).lf = U.lfs us := rfl
  rw [hlf] at hk1
  rw [big_eq] at hl
  show SpecP _ _ [.d (.sl 3 (U.mks us k0).1), .d (.i .i64 k0)] [.i .i64 (U.mks us k0).2]
  obtain ⟨ms, hms⟩ : ∃ ms, (U.mks us k0).1 = ms := ⟨_, rfl⟩
  have hml : ms.length = us.length := by rw [← hms, mks_len]
  have hel : ∀ (i : Nat) (a : U), us[i]? = some a → ms[i]? = some (a.mk (U.mks (us.take i) k0).2).1 := fun i a h => by rw [← hms]; exact mks_get h k0
  rw [hms]
  refine SpecP_intro Tryz.func78 rfl (by kernel_rfl) rfl fun A _ => ?_
  refine gGO ?_
  refine V_block ?_
  refine V_loop (α := Nat)
    (fun i => ⟨[(0, .d (.sl 3 ms)), (1, .d (.i .i64 (U.mks (us.take i) k0).2)), (5, .d (.i .i64 i))], [], Tryz.f78.ntmps⟩)
    (fun i => i ≤ us.length)
    (fun i => us.length - i) 0 ⟨rfl, ⟨⟨rfl, rfl⟩, ⟨rfl, rfl⟩, ⟨rfl, rfl⟩, trivial⟩, ⟨[], rfl⟩, rfl⟩ (by simp) ?_
  intro i hi
  refine gGO ?_
  (first | refine V_cond rfl (fun hc2 => ?_) (fun hc2 => ?_) | refine V_seq (V_cond rfl (fun hc2 => ?_) (fun hc2 => ?_)))
  · refine V_skip ?_
    simp only [decide_eq_true_eq] at hc2
    have hil : i < us.length := by omega
    obtain ⟨a, hget⟩ : ∃ a, us[i]? = some a := ⟨_, List.getElem?_eq_getElem hil⟩
    have hmem := List.mem_of_getElem? hget
    have hnext := (mks_next hget k0).2
    have hmid := lfs_mid hget
    have hsnd := mks_snd (us.take i) k0
    have hge := hel i a hget
    have hwa := hz a hmem
    obtain ⟨a_0, a_1, a_2, rfl, hwa_0, hwa_1, hwa_2⟩ := inv_DataType hwa
    have hlfa : ((.st [.s a_0, .sl 1 a_1, .sl 2 a_2]) : U).lf = 0 + 1 + U.lfs a_1 + U.lfs a_2 := by simp [U.lf, U.lfs] <;> omega
    rw [hlfa] at hmid
    have hkp : 0 < (U.mks (us.take i) k0).2 := by omega
    have hkb : (U.mks (us.take i) k0).2 + (0 + 1 + U.lfs a_1 + U.lfs a_2 : Nat) ≤ 4611686018427387904 := by omega
    clear hsnd hlfa hmid
    generalize (U.mks (us.take i) k0).2 = kk at hnext hkp hkb hge ⊢
    have hge : ms[i]? = some (.st [.s (txt (kk)), .sl 1 (U.mks a_1 (kk + 1)).1, .sl 2 (U.mks a_2 ((U.mks a_1 (kk + 1)).2)).1]) := hge
    refine V_seq (V_block ?_)
    have ht0 := markText_all (kk) (by omega) (by omega)
    repeat (first | refine gGP ?_ | refine qO (Q_index rfl rfl TE.h TI.h (by omega) hge) ?_ | refine qQ (Q_index rfl rfl TE.h TI.h (by omega) hge) ?_ | refine qO (Q_call rfl ht0 vA) ?_ | refine qQ (Q_call rfl ht0 vA) ?_)
    (first | refine V_cond rfl (fun hc3 => ?_) (fun hc3 => ?_) | refine V_seq (V_cond rfl (fun hc3 => ?_) (fun hc3 => ?_)))
    · simp at hc3
    refine V_skip ?_
    clear hc3
    have hm1 := ih0 a_0 a_1 a_2 hmem (kk + 1) (by omega) (by simp only [U.lf]; omega)
    change SpecP _ _ [.d (.sl 1 (U.mks a_1 (kk + 1)).1), _] [.i .i64 (U.mks a_1 (kk + 1)).2] at hm1
    have hs1 := mks_snd a_1 (kk + 1)
    repeat (first | refine gGP ?_ | refine qO (Q_index rfl rfl TE.h TI.h (by omega) hge) ?_ | refine qQ (Q_index rfl rfl TE.h TI.h (by omega) hge) ?_ | refine qO (Q_call rfl hm1 vA) ?_ | refine qQ (Q_call rfl hm1 vA) ?_)
    (first | refine V_cond rfl (fun hc3 => ?_) (fun hc3 => ?_) | refine V_seq (V_cond rfl (fun hc3 => ?_) (fun hc3 => ?_)))
    · exfalso; simp only [decide_eq_true_eq] at hc3; change (U.mks a_1 (kk + 1)).2 < 0 at hc3; omega
    refine V_skip ?_
    clear hc3
    have hm2 := ih1 a_0 a_1 a_2 hmem ((U.mks a_1 (kk + 1)).2) (by omega) (by simp only [U.lf]; omega)
    change SpecP _ _ [.d (.sl 2 (U.mks a_2 ((U.mks a_1 (kk + 1)).2)).1), _] [.i .i64 (U.mks a_2 ((U.mks a_1 (kk + 1)).2)).2] at hm2
    have hs2 := mks_snd a_2 ((U.mks a_1 (kk + 1)).2)
    repeat (first | refine gGP ?_ | refine qO (Q_index rfl rfl TE.h TI.h (by omega) hge) ?_ | refine qQ (Q_index rfl rfl TE.h TI.h (by omega) hge) ?_ | refine qO (Q_call rfl hm2 vA) ?_ | refine qQ (Q_call rfl hm2 vA) ?_)
    (first | refine V_cond rfl (fun hc3 => ?_) (fun hc3 => ?_) | refine V_seq (V_cond rfl (fun hc3 => ?_) (fun hc3 => ?_)))
    · exfalso; simp only [decide_eq_true_eq] at hc3; change (U.mks a_2 ((U.mks a_1 (kk + 1)).2)).2 < 0 at hc3; omega
    refine V_skip ?_
    clear hc3
    refine gGO ?_
    refine ⟨i + 1, by omega, by omega, ⟨rfl, ⟨⟨rfl, rfl⟩, ⟨?_, rfl⟩, ⟨rfl, rfl⟩, trivial⟩, ⟨[], rfl⟩, rfl⟩⟩
    rw [hnext]
    rfl
  · refine V_exit ?_
    simp only [decide_eq_false_iff_not] at hc2
    have hkl : i = us.length := by omega
    subst hkl
    show V _ _ _ _ _
    refine gGO ?_
    refine V_ret ?_
    refine ⟨trivial, ⟨_, rfl, ?_⟩, trivial⟩
    rw [List.take_length]
    exact rfl
theorem heldDataType_grp (u : U) : (∀ us, u = .sl 3 us → us.length ≤ big → (∀ x ∈ us, wt (.st 8) x) → PHe 78 u) := by
  refine U.ind (M := fun u => (∀ us, u = .sl 3 us → us.length ≤ big → (∀ x ∈ us, wt (.st 8) x) → PHe 78 u)) (fun u ih => ?_) u
  refine ?_
  · rintro us rfl hl hz
    exact heldDataTypeS_step hl hz (fun a_0 a_1 a_2 ha => by obtain ⟨_, _, _, hx_a, qa_0, qa_1, qa_2⟩ := inv_DataType (hz _ ha); cases hx_a; exact heldStringS_all qa_1) (fun a_0 a_1 a_2 ha => by obtain ⟨_, _, _, hx_a, qa_0, qa_1, qa_2⟩ := inv_DataType (hz _ ha); cases hx_a; exact heldConstructorS_all qa_2)
theorem heldDataTypeS_all {us : List U} (h : us.length ≤ big ∧ ∀ x ∈ us, wt (.st 8) x) : PHe 78 (.sl 3 us) := (heldDataType_grp (.sl 3 us)) us rfl h.1 h.2
set_option maxRecDepth 8000 in
set_option maxHeartbeats 8000000 in
theorem heldBoundS_step {us : List U} (hl : us.length ≤ big) (hz : ∀ a ∈ us, wt (.st 9) a) (ih0 : ∀ (a_0 : List UInt8) (a_1_0 : Int) (a_1_1 : List UInt8) (a_1_2 : List U), .st [.s a_0, .st [.i .i64 a_1_0, .s a_1_1, .sl 3 a_1_2]] ∈ us → PHe 133 (.sl 3 a_1_2)) : PHe 134 (.sl 4 us) := by
  intro k0 hk0 hk1
  have hlf : (U.sl 4 us).lf = U.lfs us := rfl
  rw [hlf] at hk1
  rw [big_eq] at hl
  show SpecP _ _ [.d (.sl 4 (U.mks us k0).1), .d (.i .i64 k0)] [.i .i64 (U.mks us k0).2]
  obtain ⟨ms, hms⟩ : ∃ ms, (U.mks us k0).1 = ms := ⟨_, rfl⟩
  have hml : ms.length = us.length := by rw [← hms, mks_len]
  have hel : ∀ (i : Nat) (a : U), us[i]? = some a → ms[i]? = some (a.mk (U.mks (us.take i) k0).2).1 := fun i a h => by rw [← hms]; exact mks_get h k0
  rw [hms]
  refine SpecP_intro Tryz.func134 rfl (by kernel_rfl) rfl fun A _ => ?_
  refine gGO ?_
  refine V_block ?_
  refine V_loop (α := Nat)
    (fun i => ⟨[(0, .d (.sl 4 ms)), (1, .d (.i .i64 (U.mks (us.take i) k0).2)), (5, .d (.i .i64 i))], [], Tryz.f134.ntmps⟩)
    (fun i => i ≤ us.length)
    (fun i => us.length - i) 0 ⟨rfl, ⟨⟨rfl, rfl⟩, ⟨rfl, rfl⟩, ⟨rfl, rfl⟩, trivial⟩, ⟨[], rfl⟩, rfl⟩ (by simp) ?_
  intro i hi
  refine gGO ?_
  (first | refine V_cond rfl (fun hc2 => ?_) (fun hc2 => ?_) | refine V_seq (V_cond rfl (fun hc2 => ?_) (fun hc2 => ?_)))
  · refine V_skip ?_
    simp only [decide_eq_true_eq] at hc2
    have hil : i < us.length := by omega
    obtain ⟨a, hget⟩ : ∃ a, us[i]? = some a := ⟨_, List.getElem?_eq_getElem hil⟩
    have hmem := List.mem_of_getElem? hget
    have hnext := (mks_next hget k0).2
    have hmid := lfs_mid hget
    have hsnd := mks_snd (us.take i) k0
    have hge := hel i a hget
    have hwa := hz a hmem
    obtain ⟨a_0, a_1, rfl, hwa_0, hwa_1⟩ := inv_Bound hwa
    obtain ⟨a_1_0, a_1_1, a_1_2, rfl, hwa_1_0, hwa_1_1, hwa_1_2⟩ := inv_Type hwa_1
    have hlfa : ((.st [.s a_0, .st [.i .i64 a_1_0, .s a_1_1, .sl 3 a_1_2]]) : U).lf = 0 + 1 + 1 + 1 + U.lfs a_1_2 := by simp [U.lf, U.lfs] <;> omega
    rw [hlfa] at hmid
    have hkp : 0 < (U.mks (us.take i) k0).2 := by omega
    have hkb : (U.mks (us.take i) k0).2 + (0 + 1 + 1 + 1 + U.lfs a_1_2 : Nat) ≤ 4611686018427387904 := by omega
    clear hsnd hlfa hmid
    generalize (U.mks (us.take i) k0).2 = kk at hnext hkp hkb hge ⊢
    have hge : ms[i]? = some (.st [.s (txt (kk)), .st [.i .i64 (kk + 1), .s (txt (kk + 1 + 1)), .sl 3 (U.mks a_1_2 (kk + 1 + 1 + 1)).1]]) := hge
    refine V_seq (V_block ?_)
    have ht0 := markText_all (kk) (by omega) (by omega)
    repeat (first | refine gGP ?_ | refine qO (Q_index rfl rfl TE.h TI.h (by omega) hge) ?_ | refine qQ (Q_index rfl rfl TE.h TI.h (by omega) hge) ?_ | refine qO (Q_call rfl ht0 vA) ?_ | refine qQ (Q_call rfl ht0 vA) ?_)
    (first | refine V_cond rfl (fun hc3 => ?_) (fun hc3 => ?_) | refine V_seq (V_cond rfl (fun hc3 => ?_) (fun hc3 => ?_)))
    · simp at hc3
    refine V_skip ?_
    clear hc3
    repeat (first | refine gGP ?_ | refine qO (Q_index rfl rfl TE.h TI.h (by omega) hge) ?_ | refine qQ (Q_index rfl rfl TE.h TI.h (by omega) hge) ?_)
    (first | refine V_cond rfl (fun hc3 => ?_) (fun hc3 => ?_) | refine V_seq (V_cond rfl (fun hc3 => ?_) (fun hc3 => ?_)))
    · simp at hc3
    refine V_skip ?_
    clear hc3
    have ht2 := markText_all (kk + 1 + 1) (by omega) (by omega)
    repeat (first | refine gGP ?_ | refine qO (Q_index rfl rfl TE.h TI.h (by omega) hge) ?_ | refine qQ (Q_index rfl rfl TE.h TI.h (by omega) hge) ?_ | refine qO (Q_call rfl ht2 vA) ?_ | refine qQ (Q_call rfl ht2 vA) ?_)
    (first | refine V_cond rfl (fun hc3 => ?_) (fun hc3 => ?_) | refine V_seq (V_cond rfl (fun hc3 => ?_) (fun hc3 => ?_)))
    · simp at hc3
    refine V_skip ?_
    clear hc3
    have hm3 := ih0 a_0 a_1_0 a_1_1 a_1_2 hmem (kk + 1 + 1 + 1) (by omega) (by simp only [U.lf]; omega)
    change SpecP _ _ [.d (.sl 3 (U.mks a_1_2 (kk + 1 + 1 + 1)).1), _] [.i .i64 (U.mks a_1_2 (kk + 1 + 1 + 1)).2] at hm3
    have hs3 := mks_snd a_1_2 (kk + 1 + 1 + 1)
    repeat (first | refine gGP ?_ | refine qO (Q_index rfl rfl TE.h TI.h (by omega) hge) ?_ | refine qQ (Q_index rfl rfl TE.h TI.h (by omega) hge) ?_ | refine qO (Q_call rfl hm3 vA) ?_ | refine qQ (Q_call rfl hm3 vA) ?_)
    (first | refine V_cond rfl (fun hc3 => ?_) (fun hc3 => ?_) | refine V_seq (V_cond rfl (fun hc3 => ?_) (fun hc3 => ?_)))
    · exfalso; simp only [decide_eq_true_eq] at hc3; change (U.mks a_1_2 (kk + 1 + 1 + 1)).2 < 0 at hc3; omega
    refine V_skip ?_
    clear hc3
    refine gGO ?_
    refine ⟨i + 1, by omega, by omega, ⟨rfl, ⟨⟨rfl, rfl⟩, ⟨?_, rfl⟩, ⟨rfl, rfl⟩, trivial⟩, ⟨[], rfl⟩, rfl⟩⟩
    rw [hnext]
    rfl
  · refine V_exit ?_
    simp only [decide_eq_false_iff_not] at hc2
    have hkl : i = us.length := by omega
    subst hkl
    show V _ _ _ _ _
    refine gGO ?_
    refine V_ret ?_
    refine ⟨trivial, ⟨_, rfl, ?_⟩, trivial⟩
    rw [List.take_length]
    exact rfl
theorem heldBound_grp (u : U) : (∀ us, u = .sl 4 us → us.length ≤ big → (∀ x ∈ us, wt (.st 9) x) → PHe 134 u) := by
  refine U.ind (M := fun u => (∀ us, u = .sl 4 us → us.length ≤ big → (∀ x ∈ us, wt (.st 9) x) → PHe 134 u)) (fun u ih => ?_) u
  refine ?_
  · rintro us rfl hl hz
    exact heldBoundS_step hl hz (fun a_0 a_1_0 a_1_1 a_1_2 ha => by obtain ⟨_, _, hx_a, qa_0, qa_1⟩ := inv_Bound (hz _ ha); cases hx_a; obtain ⟨_, _, _, hx_a_1, qa_1_0, qa_1_1, qa_1_2⟩ := inv_Type qa_1; cases hx_a_1; exact heldTypeS_all qa_1_2)
theorem heldBoundS_all {us : List U} (h : us.length ≤ big ∧ ∀ x ∈ us, wt (.st 9) x) : PHe 134 (.sl 4 us) := (heldBound_grp (.sl 4 us)) us rfl h.1 h.2
set_option maxRecDepth 8000 in
set_option maxHeartbeats 8000000 in
theorem heldMethodS_step {us : List U} (hl : us.length ≤ big) (hz : ∀ a ∈ us, wt (.st 10) a) (ih0 : ∀ (a_0 : List UInt8) (a_1 : List U) (a_2_0 : Int) (a_2_1 : List UInt8) (a_2_2 : List UInt8) (a_2_3 : Int) (a_2_4_0 : Int) (a_2_4_1 : List UInt8) (a_2_4_2 : List U) (a_2_5 : List U) (a_2_6 : List U), .st [.s a_0, .sl 1 a_1, .st [.i .i64 a_2_0, .s a_2_1, .s a_2_2, .i .i64 a_2_3, .st [.i .i64 a_2_4_0, .s a_2_4_1, .sl 3 a_2_4_2], .sl 9 a_2_5, .sl 11 a_2_6]] ∈ us → PHe 76 (.sl 1 a_1)) (ih1 : ∀ (a_0 : List UInt8) (a_1 : List U) (a_2_0 : Int) (a_2_1 : List UInt8) (a_2_2 : List UInt8) (a_2_3 : Int) (a_2_4_0 : Int) (a_2_4_1 : List UInt8) (a_2_4_2 : List U) (a_2_5 : List U) (a_2_6 : List U), .st [.s a_0, .sl 1 a_1, .st [.i .i64 a_2_0, .s a_2_1, .s a_2_2, .i .i64 a_2_3, .st [.i .i64 a_2_4_0, .s a_2_4_1, .sl 3 a_2_4_2], .sl 9 a_2_5, .sl 11 a_2_6]] ∈ us → PHe 133 (.sl 3 a_2_4_2)) (ih2 : ∀ (a_0 : List UInt8) (a_1 : List U) (a_2_0 : Int) (a_2_1 : List UInt8) (a_2_2 : List UInt8) (a_2_3 : Int) (a_2_4_0 : Int) (a_2_4_1 : List UInt8) (a_2_4_2 : List U) (a_2_5 : List U) (a_2_6 : List U), .st [.s a_0, .sl 1 a_1, .st [.i .i64 a_2_0, .s a_2_1, .s a_2_2, .i .i64 a_2_3, .st [.i .i64 a_2_4_0, .s a_2_4_1, .sl 3 a_2_4_2], .sl 9 a_2_5, .sl 11 a_2_6]] ∈ us → PHe 137 (.sl 9 a_2_5)) (ih3 : ∀ (a_0 : List UInt8) (a_1 : List U) (a_2_0 : Int) (a_2_1 : List UInt8) (a_2_2 : List UInt8) (a_2_3 : Int) (a_2_4_0 : Int) (a_2_4_1 : List UInt8) (a_2_4_2 : List U) (a_2_5 : List U) (a_2_6 : List U), .st [.s a_0, .sl 1 a_1, .st [.i .i64 a_2_0, .s a_2_1, .s a_2_2, .i .i64 a_2_3, .st [.i .i64 a_2_4_0, .s a_2_4_1, .sl 3 a_2_4_2], .sl 9 a_2_5, .sl 11 a_2_6]] ∈ us → PHe 138 (.sl 11 a_2_6)) : PHe 135 (.sl 11 us) := by
  intro k0 hk0 hk1
  have hlf : (U.sl 11 us).lf = U.lfs us := rfl
  rw [hlf] at hk1
  rw [big_eq] at hl
  show SpecP _ _ [.d (.sl 11 (U.mks us k0).1), .d (.i .i64 k0)] [.i .i64 (U.mks us k0).2]
  obtain ⟨ms, hms⟩ : ∃ ms, (U.mks us k0).1 = ms := ⟨_, rfl⟩
  have hml : ms.length = us.length := by rw [← hms, mks_len]
  have hel : ∀ (i : Nat) (a : U), us[i]? = some a → ms[i]? = some (a.mk (U.mks (us.take i) k0).2).1 := fun i a h => by rw [← hms]; exact mks_get h k0
  rw [hms]
  refine SpecP_intro Tryz.func135 rfl (by kernel_rfl) rfl fun A _ => ?_
  refine gGO ?_
  refine V_block ?_
  refine V_loop (α := Nat)
    (fun i => ⟨[(0, .d (.sl 11 ms)), (1, .d (.i .i64 (U.mks (us.take i) k0).2)), (5, .d (.i .i64 i))], [], Tryz.f135.ntmps⟩)
    (fun i => i ≤ us.length)
    (fun i => us.length - i) 0 ⟨rfl, ⟨⟨rfl, rfl⟩, ⟨rfl, rfl⟩, ⟨rfl, rfl⟩, trivial⟩, ⟨[], rfl⟩, rfl⟩ (by simp) ?_
  intro i hi
  refine gGO ?_
  (first | refine V_cond rfl (fun hc2 => ?_) (fun hc2 => ?_) | refine V_seq (V_cond rfl (fun hc2 => ?_) (fun hc2 => ?_)))
  · refine V_skip ?_
    simp only [decide_eq_true_eq] at hc2
    have hil : i < us.length := by omega
    obtain ⟨a, hget⟩ : ∃ a, us[i]? = some a := ⟨_, List.getElem?_eq_getElem hil⟩
    have hmem := List.mem_of_getElem? hget
    have hnext := (mks_next hget k0).2
    have hmid := lfs_mid hget
    have hsnd := mks_snd (us.take i) k0
    have hge := hel i a hget
    have hwa := hz a hmem
    obtain ⟨a_0, a_1, a_2, rfl, hwa_0, hwa_1, hwa_2⟩ := inv_Method hwa
    obtain ⟨a_2_0, a_2_1, a_2_2, a_2_3, a_2_4, a_2_5, a_2_6, rfl, hwa_2_0, hwa_2_1, hwa_2_2, hwa_2_3, hwa_2_4, hwa_2_5, hwa_2_6⟩ := inv_Expr hwa_2
    obtain ⟨a_2_4_0, a_2_4_1, a_2_4_2, rfl, hwa_2_4_0, hwa_2_4_1, hwa_2_4_2⟩ := inv_Type hwa_2_4
    have hlfa : ((.st [.s a_0, .sl 1 a_1, .st [.i .i64 a_2_0, .s a_2_1, .s a_2_2, .i .i64 a_2_3, .st [.i .i64 a_2_4_0, .s a_2_4_1, .sl 3 a_2_4_2], .sl 9 a_2_5, .sl 11 a_2_6]]) : U).lf = 0 + 1 + U.lfs a_1 + 1 + 1 + 1 + 1 + 1 + 1 + U.lfs a_2_4_2 + U.lfs a_2_5 + U.lfs a_2_6 := by simp [U.lf, U.lfs] <;> omega
    rw [hlfa] at hmid
    have hkp : 0 < (U.mks (us.take i) k0).2 := by omega
    have hkb : (U.mks (us.take i) k0).2 + (0 + 1 + U.lfs a_1 + 1 + 1 + 1 + 1 + 1 + 1 + U.lfs a_2_4_2 + U.lfs a_2_5 + U.lfs a_2_6 : Nat) ≤ 4611686018427387904 := by omega
    clear hsnd hlfa hmid
    generalize (U.mks (us.take i) k0).2 = kk at hnext hkp hkb hge ⊢
    have hge : ms[i]? = some (.st [.s (txt (kk)), .sl 1 (U.mks a_1 (kk + 1)).1, .st [.i .i64 ((U.mks a_1 (kk + 1)).2), .s (txt ((U.mks a_1 (kk + 1)).2 + 1)), .s (txt ((U.mks a_1 (kk + 1)).2 + 1 + 1)), .i .i64 ((U.mks a_1 (kk + 1)).2 + 1 + 1 + 1), .st [.i .i64 ((U.mks a_1 (kk + 1)).2 + 1 + 1 + 1 + 1), .s (txt ((U.mks a_1 (kk + 1)).2 + 1 + 1 + 1 + 1 + 1)), .sl 3 (U.mks a_2_4_2 ((U.mks a_1 (kk + 1)).2 + 1 + 1 + 1 + 1 + 1 + 1)).1], .sl 9 (U.mks a_2_5 ((U.mks a_2_4_2 ((U.mks a_1 (kk + 1)).2 + 1 + 1 + 1 + 1 + 1 + 1)).2)).1, .sl 11 (U.mks a_2_6 ((U.mks a_2_5 ((U.mks a_2_4_2 ((U.mks a_1 (kk + 1)).2 + 1 + 1 + 1 + 1 + 1 + 1)).2)).2)).1]]) := hge
    refine V_seq (V_block ?_)
    have ht0 := markText_all (kk) (by omega) (by omega)
    repeat (first | refine gGP ?_ | refine qO (Q_index rfl rfl TE.h TI.h (by omega) hge) ?_ | refine qQ (Q_index rfl rfl TE.h TI.h (by omega) hge) ?_ | refine qO (Q_call rfl ht0 vA) ?_ | refine qQ (Q_call rfl ht0 vA) ?_)
    (first | refine V_cond rfl (fun hc3 => ?_) (fun hc3 => ?_) | refine V_seq (V_cond rfl (fun hc3 => ?_) (fun hc3 => ?_)))
    · simp at hc3
    refine V_skip ?_
    clear hc3
    have hm1 := ih0 a_0 a_1 a_2_0 a_2_1 a_2_2 a_2_3 a_2_4_0 a_2_4_1 a_2_4_2 a_2_5 a_2_6 hmem (kk + 1) (by omega) (by simp only [U.lf]; omega)
    change SpecP _ _ [.d (.sl 1 (U.mks a_1 (kk + 1)).1), _] [.i .i64 (U.mks a_1 (kk + 1)).2] at hm1
    have hs1 := mks_snd a_1 (kk + 1)
    repeat (first | refine gGP ?_ | refine qO (Q_index rfl rfl TE.h TI.h (by omega) hge) ?_ | refine qQ (Q_index rfl rfl TE.h TI.h (by omega) hge) ?_ | refine qO (Q_call rfl hm1 vA) ?_ | refine qQ (Q_call rfl hm1 vA) ?_)
    (first | refine V_cond rfl (fun hc3 => ?_) (fun hc3 => ?_) | refine V_seq (V_cond rfl (fun hc3 => ?_) (fun hc3 => ?_)))
    · exfalso; simp only [decide_eq_true_eq] at hc3; change (U.mks a_1 (kk + 1)).2 < 0 at hc3; omega
    refine V_skip ?_
    clear hc3
    repeat (first | refine gGP ?_ | refine qO (Q_index rfl rfl TE.h TI.h (by omega) hge) ?_ | refine qQ (Q_index rfl rfl TE.h TI.h (by omega) hge) ?_)
    (first | refine V_cond rfl (fun hc3 => ?_) (fun hc3 => ?_) | refine V_seq (V_cond rfl (fun hc3 => ?_) (fun hc3 => ?_)))
    · simp at hc3
    refine V_skip ?_
    clear hc3
    have ht3 := markText_all ((U.mks a_1 (kk + 1)).2 + 1) (by omega) (by omega)
    repeat (first | refine gGP ?_ | refine qO (Q_index rfl rfl TE.h TI.h (by omega) hge) ?_ | refine qQ (Q_index rfl rfl TE.h TI.h (by omega) hge) ?_ | refine qO (Q_call rfl ht3 vA) ?_ | refine qQ (Q_call rfl ht3 vA) ?_)
    (first | refine V_cond rfl (fun hc3 => ?_) (fun hc3 => ?_) | refine V_seq (V_cond rfl (fun hc3 => ?_) (fun hc3 => ?_)))
    · simp at hc3
    refine V_skip ?_
    clear hc3
    have ht4 := markText_all ((U.mks a_1 (kk + 1)).2 + 1 + 1) (by omega) (by omega)
    repeat (first | refine gGP ?_ | refine qO (Q_index rfl rfl TE.h TI.h (by omega) hge) ?_ | refine qQ (Q_index rfl rfl TE.h TI.h (by omega) hge) ?_ | refine qO (Q_call rfl ht4 vA) ?_ | refine qQ (Q_call rfl ht4 vA) ?_)
    (first | refine V_cond rfl (fun hc3 => ?_) (fun hc3 => ?_) | refine V_seq (V_cond rfl (fun hc3 => ?_) (fun hc3 => ?_)))
    · simp at hc3
    refine V_skip ?_
    clear hc3
    repeat (first | refine gGP ?_ | refine qO (Q_index rfl rfl TE.h TI.h (by omega) hge) ?_ | refine qQ (Q_index rfl rfl TE.h TI.h (by omega) hge) ?_)
    (first | refine V_cond rfl (fun hc3 => ?_) (fun hc3 => ?_) | refine V_seq (V_cond rfl (fun hc3 => ?_) (fun hc3 => ?_)))
    · simp at hc3
    refine V_skip ?_
    clear hc3
    repeat (first | refine gGP ?_ | refine qO (Q_index rfl rfl TE.h TI.h (by omega) hge) ?_ | refine qQ (Q_index rfl rfl TE.h TI.h (by omega) hge) ?_)
    (first | refine V_cond rfl (fun hc3 => ?_) (fun hc3 => ?_) | refine V_seq (V_cond rfl (fun hc3 => ?_) (fun hc3 => ?_)))
    · simp at hc3
    refine V_skip ?_
    clear hc3
    have ht7 := markText_all ((U.mks a_1 (kk + 1)).2 + 1 + 1 + 1 + 1 + 1) (by omega) (by omega)
    repeat (first | refine gGP ?_ | refine qO (Q_index rfl rfl TE.h TI.h (by omega) hge) ?_ | refine qQ (Q_index rfl rfl TE.h TI.h (by omega) hge) ?_ | refine qO (Q_call rfl ht7 vA) ?_ | refine qQ (Q_call rfl ht7 vA) ?_)
    (first | refine V_cond rfl (fun hc3 => ?_) (fun hc3 => ?_) | refine V_seq (V_cond rfl (fun hc3 => ?_) (fun hc3 => ?_)))
    · simp at hc3
    refine V_skip ?_
    clear hc3
    have hm8 := ih1 a_0 a_1 a_2_0 a_2_1 a_2_2 a_2_3 a_2_4_0 a_2_4_1 a_2_4_2 a_2_5 a_2_6 hmem ((U.mks a_1 (kk + 1)).2 + 1 + 1 + 1 + 1 + 1 + 1) (by omega) (by simp only [U.lf]; omega)
    change SpecP _ _ [.d (.sl 3 (U.mks a_2_4_2 ((U.mks a_1 (kk + 1)).2 + 1 + 1 + 1 + 1 + 1 + 1)).1), _] [.i .i64 (U.mks a_2_4_2 ((U.mks a_1 (kk + 1)).2 + 1 + 1 + 1 + 1 + 1 + 1)).2] at hm8
    have hs8 := mks_snd a_2_4_2 ((U.mks a_1 (kk + 1)).2 + 1 + 1 + 1 + 1 + 1 + 1)
    repeat (first | refine gGP ?_ | refine qO (Q_index rfl rfl TE.h TI.h (by omega) hge) ?_ | refine qQ (Q_index rfl rfl TE.h TI.h (by omega) hge) ?_ | refine qO (Q_call rfl hm8 vA) ?_ | refine qQ (Q_call rfl hm8 vA) ?_)
    (first | refine V_cond rfl (fun hc3 => ?_) (fun hc3 => ?_) | refine V_seq (V_cond rfl (fun hc3 => ?_) (fun hc3 => ?_)))
    · exfalso; simp only [decide_eq_true_eq] at hc3; change (U.mks a_2_4_2 ((U.mks a_1 (kk + 1)).2 + 1 + 1 + 1 + 1 + 1 + 1)).2 < 0 at hc3; omega
    refine V_skip ?_
    clear hc3
    have hm9 := ih2 a_0 a_1 a_2_0 a_2_1 a_2_2 a_2_3 a_2_4_0 a_2_4_1 a_2_4_2 a_2_5 a_2_6 hmem ((U.mks a_2_4_2 ((U.mks a_1 (kk + 1)).2 + 1 + 1 + 1 + 1 + 1 + 1)).2) (by omega) (by simp only [U.lf]; omega)
    change SpecP _ _ [.d (.sl 9 (U.mks a_2_5 ((U.mks a_2_4_2 ((U.mks a_1 (kk + 1)).2 + 1 + 1 + 1 + 1 + 1 + 1)).2)).1), _] [.i .i64 (U.mks a_2_5 ((U.mks a_2_4_2 ((U.mks a_1 (kk + 1)).2 + 1 + 1 + 1 + 1 + 1 + 1)).2)).2] at hm9
    have hs9 := mks_snd a_2_5 ((U.mks a_2_4_2 ((U.mks a_1 (kk + 1)).2 + 1 + 1 + 1 + 1 + 1 + 1)).2)
    repeat (first | refine gGP ?_ | refine qO (Q_index rfl rfl TE.h TI.h (by omega) hge) ?_ | refine qQ (Q_index rfl rfl TE.h TI.h (by omega) hge) ?_ | refine qO (Q_call rfl hm9 vA) ?_ | refine qQ (Q_call rfl hm9 vA) ?_)
    (first | refine V_cond rfl (fun hc3 => ?_) (fun hc3 => ?_) | refine V_seq (V_cond rfl (fun hc3 => ?_) (fun hc3 => ?_)))
    · exfalso; simp only [decide_eq_true_eq] at hc3; change (U.mks a_2_5 ((U.mks a_2_4_2 ((U.mks a_1 (kk + 1)).2 + 1 + 1 + 1 + 1 + 1 + 1)).2)).2 < 0 at hc3; omega
    refine V_skip ?_
    clear hc3
    have hm10 := ih3 a_0 a_1 a_2_0 a_2_1 a_2_2 a_2_3 a_2_4_0 a_2_4_1 a_2_4_2 a_2_5 a_2_6 hmem ((U.mks a_2_5 ((U.mks a_2_4_2 ((U.mks a_1 (kk + 1)).2 + 1 + 1 + 1 + 1 + 1 + 1)).2)).2) (by omega) (by simp only [U.lf]; omega)
    change SpecP _ _ [.d (.sl 11 (U.mks a_2_6 ((U.mks a_2_5 ((U.mks a_2_4_2 ((U.mks a_1 (kk + 1)).2 + 1 + 1 + 1 + 1 + 1 + 1)).2)).2)).1), _] [.i .i64 (U.mks a_2_6 ((U.mks a_2_5 ((U.mks a_2_4_2 ((U.mks a_1 (kk + 1)).2 + 1 + 1 + 1 + 1 + 1 + 1)).2)).2)).2] at hm10
    have hs10 := mks_snd a_2_6 ((U.mks a_2_5 ((U.mks a_2_4_2 ((U.mks a_1 (kk + 1)).2 + 1 + 1 + 1 + 1 + 1 + 1)).2)).2)
    repeat (first | refine gGP ?_ | refine qO (Q_index rfl rfl TE.h TI.h (by omega) hge) ?_ | refine qQ (Q_index rfl rfl TE.h TI.h (by omega) hge) ?_ | refine qO (Q_call rfl hm10 vA) ?_ | refine qQ (Q_call rfl hm10 vA) ?_)
    (first | refine V_cond rfl (fun hc3 => ?_) (fun hc3 => ?_) | refine V_seq (V_cond rfl (fun hc3 => ?_) (fun hc3 => ?_)))
    · exfalso; simp only [decide_eq_true_eq] at hc3; change (U.mks a_2_6 ((U.mks a_2_5 ((U.mks a_2_4_2 ((U.mks a_1 (kk + 1)).2 + 1 + 1 + 1 + 1 + 1 + 1)).2)).2)).2 < 0 at hc3; omega
    refine V_skip ?_
    clear hc3
    refine gGO ?_
    refine ⟨i + 1, by omega, by omega, ⟨rfl, ⟨⟨rfl, rfl⟩, ⟨?_, rfl⟩, ⟨rfl, rfl⟩, trivial⟩, ⟨[], rfl⟩, rfl⟩⟩
    rw [hnext]
    rfl
  · refine V_exit ?_
    simp only [decide_eq_false_iff_not] at hc2
    have hkl : i = us.length := by omega
    subst hkl
    show V _ _ _ _ _
    refine gGO ?_
    refine V_ret ?_
    refine ⟨trivial, ⟨_, rfl, ?_⟩, trivial⟩
    rw [List.take_length]
    exact rfl
theorem heldMethod_grp (u : U) : (∀ us, u = .sl 11 us → us.length ≤ big → (∀ x ∈ us, wt (.st 10) x) → PHe 135 u) := by
  refine U.ind (M := fun u => (∀ us, u = .sl 11 us → us.length ≤ big → (∀ x ∈ us, wt (.st 10) x) → PHe 135 u)) (fun u ih => ?_) u
  refine ?_
  · rintro us rfl hl hz
    exact heldMethodS_step hl hz (fun a_0 a_1 a_2_0 a_2_1 a_2_2 a_2_3 a_2_4_0 a_2_4_1 a_2_4_2 a_2_5 a_2_6 ha => by obtain ⟨_, _, _, hx_a, qa_0, qa_1, qa_2⟩ := inv_Method (hz _ ha); cases hx_a; obtain ⟨_, _, _, _, _, _, _, hx_a_2, qa_2_0, qa_2_1, qa_2_2, qa_2_3, qa_2_4, qa_2_5, qa_2_6⟩ := inv_Expr qa_2; cases hx_a_2; obtain ⟨_, _, _, hx_a_2_4, qa_2_4_0, qa_2_4_1, qa_2_4_2⟩ := inv_Type qa_2_4; cases hx_a_2_4; exact heldStringS_all qa_1) (fun a_0 a_1 a_2_0 a_2_1 a_2_2 a_2_3 a_2_4_0 a_2_4_1 a_2_4_2 a_2_5 a_2_6 ha => by obtain ⟨_, _, _, hx_a, qa_0, qa_1, qa_2⟩ := inv_Method (hz _ ha); cases hx_a; obtain ⟨_, _, _, _, _, _, _, hx_a_2, qa_2_0, qa_2_1, qa_2_2, qa_2_3, qa_2_4, qa_2_5, qa_2_6⟩ := inv_Expr qa_2; cases hx_a_2; obtain ⟨_, _, _, hx_a_2_4, qa_2_4_0, qa_2_4_1, qa_2_4_2⟩ := inv_Type qa_2_4; cases hx_a_2_4; exact heldTypeS_all qa_2_4_2) (fun a_0 a_1 a_2_0 a_2_1 a_2_2 a_2_3 a_2_4_0 a_2_4_1 a_2_4_2 a_2_5 a_2_6 ha => by obtain ⟨_, _, _, hx_a, qa_0, qa_1, qa_2⟩ := inv_Method (hz _ ha); cases hx_a; obtain ⟨_, _, _, _, _, _, _, hx_a_2, qa_2_0, qa_2_1, qa_2_2, qa_2_3, qa_2_4, qa_2_5, qa_2_6⟩ := inv_Expr qa_2; cases hx_a_2; obtain ⟨_, _, _, hx_a_2_4, qa_2_4_0, qa_2_4_1, qa_2_4_2⟩ := inv_Type qa_2_4; cases hx_a_2_4; exact heldExprS_all qa_2_5) (fun a_0 a_1 a_2_0 a_2_1 a_2_2 a_2_3 a_2_4_0 a_2_4_1 a_2_4_2 a_2_5 a_2_6 ha => by obtain ⟨_, _, _, hx_a, qa_0, qa_1, qa_2⟩ := inv_Method (hz _ ha); cases hx_a; obtain ⟨_, _, _, _, _, _, _, hx_a_2, qa_2_0, qa_2_1, qa_2_2, qa_2_3, qa_2_4, qa_2_5, qa_2_6⟩ := inv_Expr qa_2; cases hx_a_2; obtain ⟨_, _, _, hx_a_2_4, qa_2_4_0, qa_2_4_1, qa_2_4_2⟩ := inv_Type qa_2_4; cases hx_a_2_4; exact heldArmS_all qa_2_6)
theorem heldMethodS_all {us : List U} (h : us.length ≤ big ∧ ∀ x ∈ us, wt (.st 10) x) : PHe 135 (.sl 11 us) := (heldMethod_grp (.sl 11 us)) us rfl h.1 h.2
set_option maxRecDepth 8000 in
set_option maxHeartbeats 8000000 in
theorem heldInstanceS_step {us : List U} (hl : us.length ≤ big) (hz : ∀ a ∈ us, wt (.st 11) a) (ih0 : ∀ (a_0 : List UInt8) (a_1 : List U) (a_2_0 : Int) (a_2_1 : List UInt8) (a_2_2 : List U) (a_3 : List U) (a_4 : Bool) (a_5 : Bool) (a_6_0 : Int) (a_6_1 : List UInt8) (a_6_2 : List U) (a_7 : List U), .st [.s a_0, .sl 1 a_1, .st [.i .i64 a_2_0, .s a_2_1, .sl 3 a_2_2], .sl 4 a_3, .b a_4, .b a_5, .st [.i .i64 a_6_0, .s a_6_1, .sl 3 a_6_2], .sl 11 a_7] ∈ us → PHe 76 (.sl 1 a_1)) (ih1 : ∀ (a_0 : List UInt8) (a_1 : List U) (a_2_0 : Int) (a_2_1 : List UInt8) (a_2_2 : List U) (a_3 : List U) (a_4 : Bool) (a_5 : Bool) (a_6_0 : Int) (a_6_1 : List UInt8) (a_6_2 : List U) (a_7 : List U), .st [.s a_0, .sl 1 a_1, .st [.i .i64 a_2_0, .s a_2_1, .sl 3 a_2_2], .sl 4 a_3, .b a_4, .b a_5, .st [.i .i64 a_6_0, .s a_6_1, .sl 3 a_6_2], .sl 11 a_7] ∈ us → PHe 133 (.sl 3 a_2_2)) (ih2 : ∀ (a_0 : List UInt8) (a_1 : List U) (a_2_0 : Int) (a_2_1 : List UInt8) (a_2_2 : List U) (a_3 : List U) (a_4 : Bool) (a_5 : Bool) (a_6_0 : Int) (a_6_1 : List UInt8) (a_6_2 : List U) (a_7 : List U), .st [.s a_0, .sl 1 a_1, .st [.i .i64 a_2_0, .s a_2_1, .sl 3 a_2_2], .sl 4 a_3, .b a_4, .b a_5, .st [.i .i64 a_6_0, .s a_6_1, .sl 3 a_6_2], .sl 11 a_7] ∈ us → PHe 134 (.sl 4 a_3)) (ih3 : ∀ (a_0 : List UInt8) (a_1 : List U) (a_2_0 : Int) (a_2_1 : List UInt8) (a_2_2 : List U) (a_3 : List U) (a_4 : Bool) (a_5 : Bool) (a_6_0 : Int) (a_6_1 : List UInt8) (a_6_2 : List U) (a_7 : List U), .st [.s a_0, .sl 1 a_1, .st [.i .i64 a_2_0, .s a_2_1, .sl 3 a_2_2], .sl 4 a_3, .b a_4, .b a_5, .st [.i .i64 a_6_0, .s a_6_1, .sl 3 a_6_2], .sl 11 a_7] ∈ us → PHe 133 (.sl 3 a_6_2)) (ih4 : ∀ (a_0 : List UInt8) (a_1 : List U) (a_2_0 : Int) (a_2_1 : List UInt8) (a_2_2 : List U) (a_3 : List U) (a_4 : Bool) (a_5 : Bool) (a_6_0 : Int) (a_6_1 : List UInt8) (a_6_2 : List U) (a_7 : List U), .st [.s a_0, .sl 1 a_1, .st [.i .i64 a_2_0, .s a_2_1, .sl 3 a_2_2], .sl 4 a_3, .b a_4, .b a_5, .st [.i .i64 a_6_0, .s a_6_1, .sl 3 a_6_2], .sl 11 a_7] ∈ us → PHe 135 (.sl 11 a_7)) : PHe 79 (.sl 12 us) := by
  intro k0 hk0 hk1
  have hlf : (U.sl 12 us).lf = U.lfs us := rfl
  rw [hlf] at hk1
  rw [big_eq] at hl
  show SpecP _ _ [.d (.sl 12 (U.mks us k0).1), .d (.i .i64 k0)] [.i .i64 (U.mks us k0).2]
  obtain ⟨ms, hms⟩ : ∃ ms, (U.mks us k0).1 = ms := ⟨_, rfl⟩
  have hml : ms.length = us.length := by rw [← hms, mks_len]
  have hel : ∀ (i : Nat) (a : U), us[i]? = some a → ms[i]? = some (a.mk (U.mks (us.take i) k0).2).1 := fun i a h => by rw [← hms]; exact mks_get h k0
  rw [hms]
  refine SpecP_intro Tryz.func79 rfl (by kernel_rfl) rfl fun A _ => ?_
  refine gGO ?_
  refine V_block ?_
  refine V_loop (α := Nat)
    (fun i => ⟨[(0, .d (.sl 12 ms)), (1, .d (.i .i64 (U.mks (us.take i) k0).2)), (5, .d (.i .i64 i))], [], Tryz.f79.ntmps⟩)
    (fun i => i ≤ us.length)
    (fun i => us.length - i) 0 ⟨rfl, ⟨⟨rfl, rfl⟩, ⟨rfl, rfl⟩, ⟨rfl, rfl⟩, trivial⟩, ⟨[], rfl⟩, rfl⟩ (by simp) ?_
  intro i hi
  refine gGO ?_
  (first | refine V_cond rfl (fun hc2 => ?_) (fun hc2 => ?_) | refine V_seq (V_cond rfl (fun hc2 => ?_) (fun hc2 => ?_)))
  · refine V_skip ?_
    simp only [decide_eq_true_eq] at hc2
    have hil : i < us.length := by omega
    obtain ⟨a, hget⟩ : ∃ a, us[i]? = some a := ⟨_, List.getElem?_eq_getElem hil⟩
    have hmem := List.mem_of_getElem? hget
    have hnext := (mks_next hget k0).2
    have hmid := lfs_mid hget
    have hsnd := mks_snd (us.take i) k0
    have hge := hel i a hget
    have hwa := hz a hmem
    obtain ⟨a_0, a_1, a_2, a_3, a_4, a_5, a_6, a_7, rfl, hwa_0, hwa_1, hwa_2, hwa_3, hwa_6, hwa_7⟩ := inv_Instance hwa
    obtain ⟨a_2_0, a_2_1, a_2_2, rfl, hwa_2_0, hwa_2_1, hwa_2_2⟩ := inv_Type hwa_2
    obtain ⟨a_6_0, a_6_1, a_6_2, rfl, hwa_6_0, hwa_6_1, hwa_6_2⟩ := inv_Type hwa_6
    have hlfa : ((.st [.s a_0, .sl 1 a_1, .st [.i .i64 a_2_0, .s a_2_1, .sl 3 a_2_2], .sl 4 a_3, .b a_4, .b a_5, .st [.i .i64 a_6_0, .s a_6_1, .sl 3 a_6_2], .sl 11 a_7]) : U).lf = 0 + 1 + U.lfs a_1 + 1 + 1 + U.lfs a_2_2 + U.lfs a_3 + 1 + 1 + 1 + 1 + U.lfs a_6_2 + U.lfs a_7 := by simp [U.lf, U.lfs] <;> omega
    rw [hlfa] at hmid
    have hkp : 0 < (U.mks (us.take i) k0).2 := by omega
    have hkb : (U.mks (us.take i) k0).2 + (0 + 1 + U.lfs a_1 + 1 + 1 + U.lfs a_2_2 + U.lfs a_3 + 1 + 1 + 1 + 1 + U.lfs a_6_2 + U.lfs a_7 : Nat) ≤ 4611686018427387904 := by omega
    clear hsnd hlfa hmid
    generalize (U.mks (us.take i) k0).2 = kk at hnext hkp hkb hge ⊢
    have hge : ms[i]? = some (.st [.s (txt (kk)), .sl 1 (U.mks a_1 (kk + 1)).1, .st [.i .i64 ((U.mks a_1 (kk + 1)).2), .s (txt ((U.mks a_1 (kk + 1)).2 + 1)), .sl 3 (U.mks a_2_2 ((U.mks a_1 (kk + 1)).2 + 1 + 1)).1], .sl 4 (U.mks a_3 ((U.mks a_2_2 ((U.mks a_1 (kk + 1)).2 + 1 + 1)).2)).1, .b (((U.mks a_3 ((U.mks a_2_2 ((U.mks a_1 (kk + 1)).2 + 1 + 1)).2)).2) % 3 == 0), .b (((U.mks a_3 ((U.mks a_2_2 ((U.mks a_1 (kk + 1)).2 + 1 + 1)).2)).2 + 1) % 3 == 0), .st [.i .i64 ((U.mks a_3 ((U.mks a_2_2 ((U.mks a_1 (kk + 1)).2 + 1 + 1)).2)).2 + 1 + 1), .s (txt ((U.mks a_3 ((U.mks a_2_2 ((U.mks a_1 (kk + 1)).2 + 1 + 1)).2)).2 + 1 + 1 + 1)), .sl 3 (U.mks a_6_2 ((U.mks a_3 ((U.mks a_2_2 ((U.mks a_1 (kk + 1)).2 + 1 + 1)).2)).2 + 1 + 1 + 1 + 1)).1], .sl 11 (U.mks a_7 ((U.mks a_6_2 ((U.mks a_3 ((U.mks a_2_2 ((U.mks a_1 (kk + 1)).2 + 1 + 1)).2)).2 + 1 + 1 + 1 + 1)).2)).1]) := hge
    refine V_seq (V_block ?_)
    have ht0 := markText_all (kk) (by omega) (by omega)
    repeat (first | refine gGP ?_ | refine qO (Q_index rfl rfl TE.h TI.h (by omega) hge) ?_ | refine qQ (Q_index rfl rfl TE.h TI.h (by omega) hge) ?_ | refine qO (Q_call rfl ht0 vA) ?_ | refine qQ (Q_call rfl ht0 vA) ?_)
    (first | refine V_cond rfl (fun hc3 => ?_) (fun hc3 => ?_) | refine V_seq (V_cond rfl (fun hc3 => ?_) (fun hc3 => ?_)))
    · simp at hc3
    refine V_skip ?_
    clear hc3
    have hm1 := ih0 a_0 a_1 a_2_0 a_2_1 a_2_2 a_3 a_4 a_5 a_6_0 a_6_1 a_6_2 a_7 hmem (kk + 1) (by omega) (by simp only [U.lf]; omega)
    change SpecP _ _ [.d (.sl 1 (U.mks a_1 (kk + 1)).1), _] [.i .i64 (U.mks a_1 (kk + 1)).2] at hm1
    have hs1 := mks_snd a_1 (kk + 1)
    repeat (first | refine gGP ?_ | refine qO (Q_index rfl rfl TE.h TI.h (by omega) hge) ?_ | refine qQ (Q_index rfl rfl TE.h TI.h (by omega) hge) ?_ | refine qO (Q_call rfl hm1 vA) ?_ | refine qQ (Q_call rfl hm1 vA) ?_)
    (first | refine V_cond rfl (fun hc3 => ?_) (fun hc3 => ?_) | refine V_seq (V_cond rfl (fun hc3 => ?_) (fun hc3 => ?_)))
    · exfalso; simp only [decide_eq_true_eq] at hc3; change (U.mks a_1 (kk + 1)).2 < 0 at hc3; omega
    refine V_skip ?_
    clear hc3
    repeat (first | refine gGP ?_ | refine qO (Q_index rfl rfl TE.h TI.h (by omega) hge) ?_ | refine qQ (Q_index rfl rfl TE.h TI.h (by omega) hge) ?_)
    (first | refine V_cond rfl (fun hc3 => ?_) (fun hc3 => ?_) | refine V_seq (V_cond rfl (fun hc3 => ?_) (fun hc3 => ?_)))
    · simp at hc3
    refine V_skip ?_
    clear hc3
    have ht3 := markText_all ((U.mks a_1 (kk + 1)).2 + 1) (by omega) (by omega)
    repeat (first | refine gGP ?_ | refine qO (Q_index rfl rfl TE.h TI.h (by omega) hge) ?_ | refine qQ (Q_index rfl rfl TE.h TI.h (by omega) hge) ?_ | refine qO (Q_call rfl ht3 vA) ?_ | refine qQ (Q_call rfl ht3 vA) ?_)
    (first | refine V_cond rfl (fun hc3 => ?_) (fun hc3 => ?_) | refine V_seq (V_cond rfl (fun hc3 => ?_) (fun hc3 => ?_)))
    · simp at hc3
    refine V_skip ?_
    clear hc3
    have hm4 := ih1 a_0 a_1 a_2_0 a_2_1 a_2_2 a_3 a_4 a_5 a_6_0 a_6_1 a_6_2 a_7 hmem ((U.mks a_1 (kk + 1)).2 + 1 + 1) (by omega) (by simp only [U.lf]; omega)
    change SpecP _ _ [.d (.sl 3 (U.mks a_2_2 ((U.mks a_1 (kk + 1)).2 + 1 + 1)).1), _] [.i .i64 (U.mks a_2_2 ((U.mks a_1 (kk + 1)).2 + 1 + 1)).2] at hm4
    have hs4 := mks_snd a_2_2 ((U.mks a_1 (kk + 1)).2 + 1 + 1)
    repeat (first | refine gGP ?_ | refine qO (Q_index rfl rfl TE.h TI.h (by omega) hge) ?_ | refine qQ (Q_index rfl rfl TE.h TI.h (by omega) hge) ?_ | refine qO (Q_call rfl hm4 vA) ?_ | refine qQ (Q_call rfl hm4 vA) ?_)
    (first | refine V_cond rfl (fun hc3 => ?_) (fun hc3 => ?_) | refine V_seq (V_cond rfl (fun hc3 => ?_) (fun hc3 => ?_)))
    · exfalso; simp only [decide_eq_true_eq] at hc3; change (U.mks a_2_2 ((U.mks a_1 (kk + 1)).2 + 1 + 1)).2 < 0 at hc3; omega
    refine V_skip ?_
    clear hc3
    have hm5 := ih2 a_0 a_1 a_2_0 a_2_1 a_2_2 a_3 a_4 a_5 a_6_0 a_6_1 a_6_2 a_7 hmem ((U.mks a_2_2 ((U.mks a_1 (kk + 1)).2 + 1 + 1)).2) (by omega) (by simp only [U.lf]; omega)
    change SpecP _ _ [.d (.sl 4 (U.mks a_3 ((U.mks a_2_2 ((U.mks a_1 (kk + 1)).2 + 1 + 1)).2)).1), _] [.i .i64 (U.mks a_3 ((U.mks a_2_2 ((U.mks a_1 (kk + 1)).2 + 1 + 1)).2)).2] at hm5
    have hs5 := mks_snd a_3 ((U.mks a_2_2 ((U.mks a_1 (kk + 1)).2 + 1 + 1)).2)
    repeat (first | refine gGP ?_ | refine qO (Q_index rfl rfl TE.h TI.h (by omega) hge) ?_ | refine qQ (Q_index rfl rfl TE.h TI.h (by omega) hge) ?_ | refine qO (Q_call rfl hm5 vA) ?_ | refine qQ (Q_call rfl hm5 vA) ?_)
    (first | refine V_cond rfl (fun hc3 => ?_) (fun hc3 => ?_) | refine V_seq (V_cond rfl (fun hc3 => ?_) (fun hc3 => ?_)))
    · exfalso; simp only [decide_eq_true_eq] at hc3; change (U.mks a_3 ((U.mks a_2_2 ((U.mks a_1 (kk + 1)).2 + 1 + 1)).2)).2 < 0 at hc3; omega
    refine V_skip ?_
    clear hc3
    repeat (first | refine gGP ?_ | refine qO (Q_index rfl rfl TE.h TI.h (by omega) hge) ?_ | refine qQ (Q_index rfl rfl TE.h TI.h (by omega) hge) ?_ | refine qO (Q_remI (m := (U.mks a_3 ((U.mks a_2_2 ((U.mks a_1 (kk + 1)).2 + 1 + 1)).2)).2) (by omega)) ?_ | refine qQ (Q_remI (m := (U.mks a_3 ((U.mks a_2_2 ((U.mks a_1 (kk + 1)).2 + 1 + 1)).2)).2) (by omega)) ?_)
    (first | refine V_cond rfl (fun hc3 => ?_) (fun hc3 => ?_) | refine V_seq (V_cond rfl (fun hc3 => ?_) (fun hc3 => ?_)))
    · simp at hc3
    refine V_skip ?_
    clear hc3
    repeat (first | refine gGP ?_ | refine qO (Q_index rfl rfl TE.h TI.h (by omega) hge) ?_ | refine qQ (Q_index rfl rfl TE.h TI.h (by omega) hge) ?_ | refine qO (Q_remI (m := (U.mks a_3 ((U.mks a_2_2 ((U.mks a_1 (kk + 1)).2 + 1 + 1)).2)).2 + 1) (by omega)) ?_ | refine qQ (Q_remI (m := (U.mks a_3 ((U.mks a_2_2 ((U.mks a_1 (kk + 1)).2 + 1 + 1)).2)).2 + 1) (by omega)) ?_)
    (first | refine V_cond rfl (fun hc3 => ?_) (fun hc3 => ?_) | refine V_seq (V_cond rfl (fun hc3 => ?_) (fun hc3 => ?_)))
    · simp at hc3
    refine V_skip ?_
    clear hc3
    repeat (first | refine gGP ?_ | refine qO (Q_index rfl rfl TE.h TI.h (by omega) hge) ?_ | refine qQ (Q_index rfl rfl TE.h TI.h (by omega) hge) ?_)
    (first | refine V_cond rfl (fun hc3 => ?_) (fun hc3 => ?_) | refine V_seq (V_cond rfl (fun hc3 => ?_) (fun hc3 => ?_)))
    · simp at hc3
    refine V_skip ?_
    clear hc3
    have ht9 := markText_all ((U.mks a_3 ((U.mks a_2_2 ((U.mks a_1 (kk + 1)).2 + 1 + 1)).2)).2 + 1 + 1 + 1) (by omega) (by omega)
    repeat (first | refine gGP ?_ | refine qO (Q_index rfl rfl TE.h TI.h (by omega) hge) ?_ | refine qQ (Q_index rfl rfl TE.h TI.h (by omega) hge) ?_ | refine qO (Q_call rfl ht9 vA) ?_ | refine qQ (Q_call rfl ht9 vA) ?_)
    (first | refine V_cond rfl (fun hc3 => ?_) (fun hc3 => ?_) | refine V_seq (V_cond rfl (fun hc3 => ?_) (fun hc3 => ?_)))
    · simp at hc3
    refine V_skip ?_
    clear hc3
    have hm10 := ih3 a_0 a_1 a_2_0 a_2_1 a_2_2 a_3 a_4 a_5 a_6_0 a_6_1 a_6_2 a_7 hmem ((U.mks a_3 ((U.mks a_2_2 ((U.mks a_1 (kk + 1)).2 + 1 + 1)).2)).2 + 1 + 1 + 1 + 1) (by omega) (by simp only [U.lf]; omega)
    change SpecP _ _ [.d (.sl 3 (U.mks a_6_2 ((U.mks a_3 ((U.mks a_2_2 ((U.mks a_1 (kk + 1)).2 + 1 + 1)).2)).2 + 1 + 1 + 1 + 1)).1), _] [.i .i64 (U.mks a_6_2 ((U.mks a_3 ((U.mks a_2_2 ((U.mks a_1 (kk + 1)).2 + 1 + 1)).2)).2 + 1 + 1 + 1 + 1)).2] at hm10
    have hs10 := mks_snd a_6_2 ((U.mks a_3 ((U.mks a_2_2 ((U.mks a_1 (kk + 1)).2 + 1 + 1)).2)).2 + 1 + 1 + 1 + 1)
    repeat (first | refine gGP ?_ | refine qO (Q_index rfl rfl TE.h TI.h (by omega) hge) ?_ | refine qQ (Q_index rfl rfl TE.h TI.h (by omega) hge) ?_ | refine qO (Q_call rfl hm10 vA) ?_ | refine qQ (Q_call rfl hm10 vA) ?_)
    (first | refine V_cond rfl (fun hc3 => ?_) (fun hc3 => ?_) | refine V_seq (V_cond rfl (fun hc3 => ?_) (fun hc3 => ?_)))
    · exfalso; simp only [decide_eq_true_eq] at hc3; change (U.mks a_6_2 ((U.mks a_3 ((U.mks a_2_2 ((U.mks a_1 (kk + 1)).2 + 1 + 1)).2)).2 + 1 + 1 + 1 + 1)).2 < 0 at hc3; omega
    refine V_skip ?_
    clear hc3
    have hm11 := ih4 a_0 a_1 a_2_0 a_2_1 a_2_2 a_3 a_4 a_5 a_6_0 a_6_1 a_6_2 a_7 hmem ((U.mks a_6_2 ((U.mks a_3 ((U.mks a_2_2 ((U.mks a_1 (kk + 1)).2 + 1 + 1)).2)).2 + 1 + 1 + 1 + 1)).2) (by omega) (by simp only [U.lf]; omega)
    change SpecP _ _ [.d (.sl 11 (U.mks a_7 ((U.mks a_6_2 ((U.mks a_3 ((U.mks a_2_2 ((U.mks a_1 (kk + 1)).2 + 1 + 1)).2)).2 + 1 + 1 + 1 + 1)).2)).1), _] [.i .i64 (U.mks a_7 ((U.mks a_6_2 ((U.mks a_3 ((U.mks a_2_2 ((U.mks a_1 (kk + 1)).2 + 1 + 1)).2)).2 + 1 + 1 + 1 + 1)).2)).2] at hm11
    have hs11 := mks_snd a_7 ((U.mks a_6_2 ((U.mks a_3 ((U.mks a_2_2 ((U.mks a_1 (kk + 1)).2 + 1 + 1)).2)).2 + 1 + 1 + 1 + 1)).2)
    repeat (first | refine gGP ?_ | refine qO (Q_index rfl rfl TE.h TI.h (by omega) hge) ?_ | refine qQ (Q_index rfl rfl TE.h TI.h (by omega) hge) ?_ | refine qO (Q_call rfl hm11 vA) ?_ | refine qQ (Q_call rfl hm11 vA) ?_)
    (first | refine V_cond rfl (fun hc3 => ?_) (fun hc3 => ?_) | refine V_seq (V_cond rfl (fun hc3 => ?_) (fun hc3 => ?_)))
    · exfalso; simp only [decide_eq_true_eq] at hc3; change (U.mks a_7 ((U.mks a_6_2 ((U.mks a_3 ((U.mks a_2_2 ((U.mks a_1 (kk + 1)).2 + 1 + 1)).2)).2 + 1 + 1 + 1 + 1)).2)).2 < 0 at hc3; omega
    refine V_skip ?_
    clear hc3
    refine gGO ?_
    refine ⟨i + 1, by omega, by omega, ⟨rfl, ⟨⟨rfl, rfl⟩, ⟨?_, rfl⟩, ⟨rfl, rfl⟩, trivial⟩, ⟨[], rfl⟩, rfl⟩⟩
    rw [hnext]
    rfl
  · refine V_exit ?_
    simp only [decide_eq_false_iff_not] at hc2
    have hkl : i = us.length := by omega
    subst hkl
    show V _ _ _ _ _
    refine gGO ?_
    refine V_ret ?_
    refine ⟨trivial, ⟨_, rfl, ?_⟩, trivial⟩
    rw [List.take_length]
    exact rfl
theorem heldInstance_grp (u : U) : (∀ us, u = .sl 12 us → us.length ≤ big → (∀ x ∈ us, wt (.st 11) x) → PHe 79 u) := by
  refine U.ind (M := fun u => (∀ us, u = .sl 12 us → us.length ≤ big → (∀ x ∈ us, wt (.st 11) x) → PHe 79 u)) (fun u ih => ?_) u
  refine ?_
  · rintro us rfl hl hz
    exact heldInstanceS_step hl hz (fun a_0 a_1 a_2_0 a_2_1 a_2_2 a_3 a_4 a_5 a_6_0 a_6_1 a_6_2 a_7 ha => by obtain ⟨_, _, _, _, _, _, _, _, hx_a, qa_0, qa_1, qa_2, qa_3, qa_6, qa_7⟩ := inv_Instance (hz _ ha); cases hx_a; obtain ⟨_, _, _, hx_a_2, qa_2_0, qa_2_1, qa_2_2⟩ := inv_Type qa_2; cases hx_a_2; obtain ⟨_, _, _, hx_a_6, qa_6_0, qa_6_1, qa_6_2⟩ := inv_Type qa_6; cases hx_a_6; exact heldStringS_all qa_1) (fun a_0 a_1 a_2_0 a_2_1 a_2_2 a_3 a_4 a_5 a_6_0 a_6_1 a_6_2 a_7 ha => by obtain ⟨_, _, _, _, _, _, _, _, hx_a, qa_0, qa_1, qa_2, qa_3, qa_6, qa_7⟩ := inv_Instance (hz _ ha); cases hx_a; obtain ⟨_, _, _, hx_a_2, qa_2_0, qa_2_1, qa_2_2⟩ := inv_Type qa_2; cases hx_a_2; obtain ⟨_, _, _, hx_a_6, qa_6_0, qa_6_1, qa_6_2⟩ := inv_Type qa_6; cases hx_a_6; exact heldTypeS_all qa_2_2) (fun a_0 a_1 a_2_0 a_2_1 a_2_2 a_3 a_4 a_5 a_6_0 a_6_1 a_6_2 a_7 ha => by obtain ⟨_, _, _, _, _, _, _, _, hx_a, qa_0, qa_1, qa_2, qa_3, qa_6, qa_7⟩ := inv_Instance (hz _ ha); cases hx_a; obtain ⟨_, _, _, hx_a_2, qa_2_0, qa_2_1, qa_2_2⟩ := inv_Type qa_2; cases hx_a_2; obtain ⟨_, _, _, hx_a_6, qa_6_0, qa_6_1, qa_6_2⟩ := inv_Type qa_6; cases hx_a_6; exact heldBoundS_all qa_3) (fun a_0 a_1 a_2_0 a_2_1 a_2_2 a_3 a_4 a_5 a_6_0 a_6_1 a_6_2 a_7 ha => by obtain ⟨_, _, _, _, _, _, _, _, hx_a, qa_0, qa_1, qa_2, qa_3, qa_6, qa_7⟩ := inv_Instance (hz _ ha); cases hx_a; obtain ⟨_, _, _, hx_a_2, qa_2_0, qa_2_1, qa_2_2⟩ := inv_Type qa_2; cases hx_a_2; obtain ⟨_, _, _, hx_a_6, qa_6_0, qa_6_1, qa_6_2⟩ := inv_Type qa_6; cases hx_a_6; exact heldTypeS_all qa_6_2) (fun a_0 a_1 a_2_0 a_2_1 a_2_2 a_3 a_4 a_5 a_6_0 a_6_1 a_6_2 a_7 ha => by obtain ⟨_, _, _, _, _, _, _, _, hx_a, qa_0, qa_1, qa_2, qa_3, qa_6, qa_7⟩ := inv_Instance (hz _ ha); cases hx_a; obtain ⟨_, _, _, hx_a_2, qa_2_0, qa_2_1, qa_2_2⟩ := inv_Type qa_2; cases hx_a_2; obtain ⟨_, _, _, hx_a_6, qa_6_0, qa_6_1, qa_6_2⟩ := inv_Type qa_6; cases hx_a_6; exact heldMethodS_all qa_7)
theorem heldInstanceS_all {us : List U} (h : us.length ≤ big ∧ ∀ x ∈ us, wt (.st 11) x) : PHe 79 (.sl 12 us) := (heldInstance_grp (.sl 12 us)) us rfl h.1 h.2
set_option maxRecDepth 8000 in
set_option maxHeartbeats 8000000 in
theorem heldParamS_step {us : List U} (hl : us.length ≤ big) (hz : ∀ a ∈ us, wt (.st 12) a) (ih0 : ∀ (a_0 : List UInt8) (a_1_0 : Int) (a_1_1 : List UInt8) (a_1_2 : List U), .st [.s a_0, .st [.i .i64 a_1_0, .s a_1_1, .sl 3 a_1_2]] ∈ us → PHe 133 (.sl 3 a_1_2)) : PHe 136 (.sl 4 us) := by
  intro k0 hk0 hk1
  have hlf : (U.sl 4 us).lf = U.lfs us := rfl
  rw [hlf] at hk1
  rw [big_eq] at hl
  show SpecP _ _ [.d (.sl 4 (U.mks us k0).1), .d (.i .i64 k0)] [.i .i64 (U.mks us k0).2]
  obtain ⟨ms, hms⟩ : ∃ ms, (U.mks us k0).1 = ms := ⟨_, rfl⟩
  have hml : ms.length = us.length := by rw [← hms, mks_len]
  have hel : ∀ (i : Nat) (a : U), us[i]? = some a → ms[i]? = some (a.mk (U.mks (us.take i) k0).2).1 := fun i a h => by rw [← hms]; exact mks_get h k0
  rw [hms]
  refine SpecP_intro Tryz.func136 rfl (by kernel_rfl) rfl fun A _ => ?_
  refine gGO ?_
  refine V_block ?_
  refine V_loop (α := Nat)
    (fun i => ⟨[(0, .d (.sl 4 ms)), (1, .d (.i .i64 (U.mks (us.take i) k0).2)), (5, .d (.i .i64 i))], [], Tryz.f136.ntmps⟩)
    (fun i => i ≤ us.length)
    (fun i => us.length - i) 0 ⟨rfl, ⟨⟨rfl, rfl⟩, ⟨rfl, rfl⟩, ⟨rfl, rfl⟩, trivial⟩, ⟨[], rfl⟩, rfl⟩ (by simp) ?_
  intro i hi
  refine gGO ?_
  (first | refine V_cond rfl (fun hc2 => ?_) (fun hc2 => ?_) | refine V_seq (V_cond rfl (fun hc2 => ?_) (fun hc2 => ?_)))
  · refine V_skip ?_
    simp only [decide_eq_true_eq] at hc2
    have hil : i < us.length := by omega
    obtain ⟨a, hget⟩ : ∃ a, us[i]? = some a := ⟨_, List.getElem?_eq_getElem hil⟩
    have hmem := List.mem_of_getElem? hget
    have hnext := (mks_next hget k0).2
    have hmid := lfs_mid hget
    have hsnd := mks_snd (us.take i) k0
    have hge := hel i a hget
    have hwa := hz a hmem
    obtain ⟨a_0, a_1, rfl, hwa_0, hwa_1⟩ := inv_Param hwa
    obtain ⟨a_1_0, a_1_1, a_1_2, rfl, hwa_1_0, hwa_1_1, hwa_1_2⟩ := inv_Type hwa_1
    have hlfa : ((.st [.s a_0, .st [.i .i64 a_1_0, .s a_1_1, .sl 3 a_1_2]]) : U).lf = 0 + 1 + 1 + 1 + U.lfs a_1_2 := by simp [U.lf, U.lfs] <;> omega
    rw [hlfa] at hmid
    have hkp : 0 < (U.mks (us.take i) k0).2 := by omega
    have hkb : (U.mks (us.take i) k0).2 + (0 + 1 + 1 + 1 + U.lfs a_1_2 : Nat) ≤ 4611686018427387904 := by omega
    clear hsnd hlfa hmid
    generalize (U.mks (us.take i) k0).2 = kk at hnext hkp hkb hge ⊢
    have hge : ms[i]? = some (.st [.s (txt (kk)), .st [.i .i64 (kk + 1), .s (txt (kk + 1 + 1)), .sl 3 (U.mks a_1_2 (kk + 1 + 1 + 1)).1]]) := hge
    refine V_seq (V_block ?_)
    have ht0 := markText_all (kk) (by omega) (by omega)
    repeat (first | refine gGP ?_ | refine qO (Q_index rfl rfl TE.h TI.h (by omega) hge) ?_ | refine qQ (Q_index rfl rfl TE.h TI.h (by omega) hge) ?_ | refine qO (Q_call rfl ht0 vA) ?_ | refine qQ (Q_call rfl ht0 vA) ?_)
    (first | refine V_cond rfl (fun hc3 => ?_) (fun hc3 => ?_) | refine V_seq (V_cond rfl (fun hc3 => ?_) (fun hc3 => ?_)))
    · simp at hc3
    refine V_skip ?_
    clear hc3
    repeat (first | refine gGP ?_ | refine qO (Q_index rfl rfl TE.h TI.h (by omega) hge) ?_ | refine qQ (Q_index rfl rfl TE.h TI.h (by omega) hge) ?_)
    (first | refine V_cond rfl (fun hc3 => ?_) (fun hc3 => ?_) | refine V_seq (V_cond rfl (fun hc3 => ?_) (fun hc3 => ?_)))
    · simp at hc3
    refine V_skip ?_
    clear hc3
    have ht2 := markText_all (kk + 1 + 1) (by omega) (by omega)
    repeat (first | refine gGP ?_ | refine qO (Q_index rfl rfl TE.h TI.h (by omega) hge) ?_ | refine qQ (Q_index rfl rfl TE.h TI.h (by omega) hge) ?_ | refine qO (Q_call rfl ht2 vA) ?_ | refine qQ (Q_call rfl ht2 vA) ?_)
    (first | refine V_cond rfl (fun hc3 => ?_) (fun hc3 => ?_) | refine V_seq (V_cond rfl (fun hc3 => ?_) (fun hc3 => ?_)))
    · simp at hc3
    refine V_skip ?_
    clear hc3
    have hm3 := ih0 a_0 a_1_0 a_1_1 a_1_2 hmem (kk + 1 + 1 + 1) (by omega) (by simp only [U.lf]; omega)
    change SpecP _ _ [.d (.sl 3 (U.mks a_1_2 (kk + 1 + 1 + 1)).1), _] [.i .i64 (U.mks a_1_2 (kk + 1 + 1 + 1)).2] at hm3
    have hs3 := mks_snd a_1_2 (kk + 1 + 1 + 1)
    repeat (first | refine gGP ?_ | refine qO (Q_index rfl rfl TE.h TI.h (by omega) hge) ?_ | refine qQ (Q_index rfl rfl TE.h TI.h (by omega) hge) ?_ | refine qO (Q_call rfl hm3 vA) ?_ | refine qQ (Q_call rfl hm3 vA) ?_)
    (first | refine V_cond rfl (fun hc3 => ?_) (fun hc3 => ?_) | refine V_seq (V_cond rfl (fun hc3 => ?_) (fun hc3 => ?_)))
    · exfalso; simp only [decide_eq_true_eq] at hc3; change (U.mks a_1_2 (kk + 1 + 1 + 1)).2 < 0 at hc3; omega
    refine V_skip ?_
    clear hc3
    refine gGO ?_
    refine ⟨i + 1, by omega, by omega, ⟨rfl, ⟨⟨rfl, rfl⟩, ⟨?_, rfl⟩, ⟨rfl, rfl⟩, trivial⟩, ⟨[], rfl⟩, rfl⟩⟩
    rw [hnext]
    rfl
  · refine V_exit ?_
    simp only [decide_eq_false_iff_not] at hc2
    have hkl : i = us.length := by omega
    subst hkl
    show V _ _ _ _ _
    refine gGO ?_
    refine V_ret ?_
    refine ⟨trivial, ⟨_, rfl, ?_⟩, trivial⟩
    rw [List.take_length]
    exact rfl
theorem heldParam_grp (u : U) : (∀ us, u = .sl 4 us → us.length ≤ big → (∀ x ∈ us, wt (.st 12) x) → PHe 136 u) := by
  refine U.ind (M := fun u => (∀ us, u = .sl 4 us → us.length ≤ big → (∀ x ∈ us, wt (.st 12) x) → PHe 136 u)) (fun u ih => ?_) u
  refine ?_
  · rintro us rfl hl hz
    exact heldParamS_step hl hz (fun a_0 a_1_0 a_1_1 a_1_2 ha => by obtain ⟨_, _, hx_a, qa_0, qa_1⟩ := inv_Param (hz _ ha); cases hx_a; obtain ⟨_, _, _, hx_a_1, qa_1_0, qa_1_1, qa_1_2⟩ := inv_Type qa_1; cases hx_a_1; exact heldTypeS_all qa_1_2)
theorem heldParamS_all {us : List U} (h : us.length ≤ big ∧ ∀ x ∈ us, wt (.st 12) x) : PHe 136 (.sl 4 us) := (heldParam_grp (.sl 4 us)) us rfl h.1 h.2
set_option maxRecDepth 8000 in
set_option maxHeartbeats 8000000 in
theorem heldFunctionS_step {us : List U} (hl : us.length ≤ big) (hz : ∀ a ∈ us, wt (.st 13) a) (ih0 : ∀ (a_0 : List UInt8) (a_1 : List U) (a_2 : List U) (a_3 : List U) (a_4_0 : Int) (a_4_1 : List UInt8) (a_4_2 : List U) (a_5_0 : Int) (a_5_1 : List UInt8) (a_5_2 : List UInt8) (a_5_3 : Int) (a_5_4_0 : Int) (a_5_4_1 : List UInt8) (a_5_4_2 : List U) (a_5_5 : List U) (a_5_6 : List U), .st [.s a_0, .sl 1 a_1, .sl 4 a_2, .sl 4 a_3, .st [.i .i64 a_4_0, .s a_4_1, .sl 3 a_4_2], .st [.i .i64 a_5_0, .s a_5_1, .s a_5_2, .i .i64 a_5_3, .st [.i .i64 a_5_4_0, .s a_5_4_1, .sl 3 a_5_4_2], .sl 9 a_5_5, .sl 11 a_5_6]] ∈ us → PHe 76 (.sl 1 a_1)) (ih1 : ∀ (a_0 : List UInt8) (a_1 : List U) (a_2 : List U) (a_3 : List U) (a_4_0 : Int) (a_4_1 : List UInt8) (a_4_2 : List U) (a_5_0 : Int) (a_5_1 : List UInt8) (a_5_2 : List UInt8) (a_5_3 : Int) (a_5_4_0 : Int) (a_5_4_1 : List UInt8) (a_5_4_2 : List U) (a_5_5 : List U) (a_5_6 : List U), .st [.s a_0, .sl 1 a_1, .sl 4 a_2, .sl 4 a_3, .st [.i .i64 a_4_0, .s a_4_1, .sl 3 a_4_2], .st [.i .i64 a_5_0, .s a_5_1, .s a_5_2, .i .i64 a_5_3, .st [.i .i64 a_5_4_0, .s a_5_4_1, .sl 3 a_5_4_2], .sl 9 a_5_5, .sl 11 a_5_6]] ∈ us → PHe 134 (.sl 4 a_2)) (ih2 : ∀ (a_0 : List UInt8) (a_1 : List U) (a_2 : List U) (a_3 : List U) (a_4_0 : Int) (a_4_1 : List UInt8) (a_4_2 : List U) (a_5_0 : Int) (a_5_1 : List UInt8) (a_5_2 : List UInt8) (a_5_3 : Int) (a_5_4_0 : Int) (a_5_4_1 : List UInt8) (a_5_4_2 : List U) (a_5_5 : List U) (a_5_6 : List U), .st [.s a_0, .sl 1 a_1, .sl 4 a_2, .sl 4 a_3, .st [.i .i64 a_4_0, .s a_4_1, .sl 3 a_4_2], .st [.i .i64 a_5_0, .s a_5_1, .s a_5_2, .i .i64 a_5_3, .st [.i .i64 a_5_4_0, .s a_5_4_1, .sl 3 a_5_4_2], .sl 9 a_5_5, .sl 11 a_5_6]] ∈ us → PHe 136 (.sl 4 a_3)) (ih3 : ∀ (a_0 : List UInt8) (a_1 : List U) (a_2 : List U) (a_3 : List U) (a_4_0 : Int) (a_4_1 : List UInt8) (a_4_2 : List U) (a_5_0 : Int) (a_5_1 : List UInt8) (a_5_2 : List UInt8) (a_5_3 : Int) (a_5_4_0 : Int) (a_5_4_1 : List UInt8) (a_5_4_2 : List U) (a_5_5 : List U) (a_5_6 : List U), .st [.s a_0, .sl 1 a_1, .sl 4 a_2, .sl 4 a_3, .st [.i .i64 a_4_0, .s a_4_1, .sl 3 a_4_2], .st [.i .i64 a_5_0, .s a_5_1, .s a_5_2, .i .i64 a_5_3, .st [.i .i64 a_5_4_0, .s a_5_4_1, .sl 3 a_5_4_2], .sl 9 a_5_5, .sl 11 a_5_6]] ∈ us → PHe 133 (.sl 3 a_4_2)) (ih4 : ∀ (a_0 : List UInt8) (a_1 : List U) (a_2 : List U) (a_3 : List U) (a_4_0 : Int) (a_4_1 : List UInt8) (a_4_2 : List U) (a_5_0 : Int) (a_5_1 : List UInt8) (a_5_2 : List UInt8) (a_5_3 : Int) (a_5_4_0 : Int) (a_5_4_1 : List UInt8) (a_5_4_2 : List U) (a_5_5 : List U) (a_5_6 : List U), .st [.s a_0, .sl 1 a_1, .sl 4 a_2, .sl 4 a_3, .st [.i .i64 a_4_0, .s a_4_1, .sl 3 a_4_2], .st [.i .i64 a_5_0, .s a_5_1, .s a_5_2, .i .i64 a_5_3, .st [.i .i64 a_5_4_0, .s a_5_4_1, .sl 3 a_5_4_2], .sl 9 a_5_5, .sl 11 a_5_6]] ∈ us → PHe 133 (.sl 3 a_5_4_2)) (ih5 : ∀ (a_0 : List UInt8) (a_1 : List U) (a_2 : List U) (a_3 : List U) (a_4_0 : Int) (a_4_1 : List UInt8) (a_4_2 : List U) (a_5_0 : Int) (a_5_1 : List UInt8) (a_5_2 : List UInt8) (a_5_3 : Int) (a_5_4_0 : Int) (a_5_4_1 : List UInt8) (a_5_4_2 : List U) (a_5_5 : List U) (a_5_6 : List U), .st [.s a_0, .sl 1 a_1, .sl 4 a_2, .sl 4 a_3, .st [.i .i64 a_4_0, .s a_4_1, .sl 3 a_4_2], .st [.i .i64 a_5_0, .s a_5_1, .s a_5_2, .i .i64 a_5_3, .st [.i .i64 a_5_4_0, .s a_5_4_1, .sl 3 a_5_4_2], .sl 9 a_5_5, .sl 11 a_5_6]] ∈ us → PHe 137 (.sl 9 a_5_5)) (ih6 : ∀ (a_0 : List UInt8) (a_1 : List U) (a_2 : List U) (a_3 : List U) (a_4_0 : Int) (a_4_1 : List UInt8) (a_4_2 : List U) (a_5_0 : Int) (a_5_1 : List UInt8) (a_5_2 : List UInt8) (a_5_3 : Int) (a_5_4_0 : Int) (a_5_4_1 : List UInt8) (a_5_4_2 : List U) (a_5_5 : List U) (a_5_6 : List U), .st [.s a_0, .sl 1 a_1, .sl 4 a_2, .sl 4 a_3, .st [.i .i64 a_4_0, .s a_4_1, .sl 3 a_4_2], .st [.i .i64 a_5_0, .s a_5_1, .s a_5_2, .i .i64 a_5_3, .st [.i .i64 a_5_4_0, .s a_5_4_1, .sl 3 a_5_4_2], .sl 9 a_5_5, .sl 11 a_5_6]] ∈ us → PHe 138 (.sl 11 a_5_6)) : PHe 80 (.sl 16 us) := by
  intro k0 hk0 hk1
  have hlf : (U.sl 16 us).lf = U.lfs us := rfl
  rw [hlf] at hk1
  rw [big_eq] at hl
  show SpecP _ _ [.d (.sl 16 (U.mks us k0).1), .d (.i .i64 k0)] [.i .i64 (U.mks us k0).2]
  obtain ⟨ms, hms⟩ : ∃ ms, (U.mks us k0).1 = ms := ⟨_, rfl⟩
  have hml : ms.length = us.length := by rw [← hms, mks_len]
  have hel : ∀ (i : Nat) (a : U), us[i]? = some a → ms[i]? = some (a.mk (U.mks (us.take i) k0).2).1 := fun i a h => by rw [← hms]; exact mks_get h k0
  rw [hms]
  refine SpecP_intro Tryz.func80 rfl (by kernel_rfl) rfl fun A _ => ?_
  refine gGO ?_
  refine V_block ?_
  refine V_loop (α := Nat)
    (fun i => ⟨[(0, .d (.sl 16 ms)), (1, .d (.i .i64 (U.mks (us.take i) k0).2)), (5, .d (.i .i64 i))], [], Tryz.f80.ntmps⟩)
    (fun i => i ≤ us.length)
    (fun i => us.length - i) 0 ⟨rfl, ⟨⟨rfl, rfl⟩, ⟨rfl, rfl⟩, ⟨rfl, rfl⟩, trivial⟩, ⟨[], rfl⟩, rfl⟩ (by simp) ?_
  intro i hi
  refine gGO ?_
  (first | refine V_cond rfl (fun hc2 => ?_) (fun hc2 => ?_) | refine V_seq (V_cond rfl (fun hc2 => ?_) (fun hc2 => ?_)))
  · refine V_skip ?_
    simp only [decide_eq_true_eq] at hc2
    have hil : i < us.length := by omega
    obtain ⟨a, hget⟩ : ∃ a, us[i]? = some a := ⟨_, List.getElem?_eq_getElem hil⟩
    have hmem := List.mem_of_getElem? hget
    have hnext := (mks_next hget k0).2
    have hmid := lfs_mid hget
    have hsnd := mks_snd (us.take i) k0
    have hge := hel i a hget
    have hwa := hz a hmem
    obtain ⟨a_0, a_1, a_2, a_3, a_4, a_5, rfl, hwa_0, hwa_1, hwa_2, hwa_3, hwa_4, hwa_5⟩ := inv_Function hwa
    obtain ⟨a_4_0, a_4_1, a_4_2, rfl, hwa_4_0, hwa_4_1, hwa_4_2⟩ := inv_Type hwa_4
    obtain ⟨a_5_0, a_5_1, a_5_2, a_5_3, a_5_4, a_5_5, a_5_6, rfl, hwa_5_0, hwa_5_1, hwa_5_2, hwa_5_3, hwa_5_4, hwa_5_5, hwa_5_6⟩ := inv_Expr hwa_5
    obtain ⟨a_5_4_0, a_5_4_1, a_5_4_2, rfl, hwa_5_4_0, hwa_5_4_1, hwa_5_4_2⟩ := inv_Type hwa_5_4
    have hlfa : ((.st [.s a_0, .sl 1 a_1, .sl 4 a_2, .sl 4 a_3, .st [.i .i64 a_4_0, .s a_4_1, .sl 3 a_4_2], .st [.i .i64 a_5_0, .s a_5_1, .s a_5_2, .i .i64 a_5_3, .st [.i .i64 a_5_4_0, .s a_5_4_1, .sl 3 a_5_4_2], .sl 9 a_5_5, .sl 11 a_5_6]]) : U).lf = 0 + 1 + U.lfs a_1 + U.lfs a_2 + U.lfs a_3 + 1 + 1 + U.lfs a_4_2 + 1 + 1 + 1 + 1 + 1 + 1 + U.lfs a_5_4_2 + U.lfs a_5_5 + U.lfs a_5_6 := by simp [U.lf, U.lfs] <;> omega
    rw [hlfa] at hmid
    have hkp : 0 < (U.mks (us.take i) k0).2 := by omega
    have hkb : (U.mks (us.take i) k0).2 + (0 + 1 + U.lfs a_1 + U.lfs a_2 + U.lfs a_3 + 1 + 1 + U.lfs a_4_2 + 1 + 1 + 1 + 1 + 1 + 1 + U.lfs a_5_4_2 + U.lfs a_5_5 + U.lfs a_5_6 : Nat) ≤ 4611686018427387904 := by omega
    clear hsnd hlfa hmid
    generalize (U.mks (us.take i) k0).2 = kk at hnext hkp hkb hge ⊢
    have hge : ms[i]? = some (.st [.s (txt (kk)), .sl 1 (U.mks a_1 (kk + 1)).1, .sl 4 (U.mks a_2 ((U.mks a_1 (kk + 1)).2)).1, .sl 4 (U.mks a_3 ((U.mks a_2 ((U.mks a_1 (kk + 1)).2)).2)).1, .st [.i .i64 ((U.mks a_3 ((U.mks a_2 ((U.mks a_1 (kk + 1)).2)).2)).2), .s (txt ((U.mks a_3 ((U.mks a_2 ((U.mks a_1 (kk + 1)).2)).2)).2 + 1)), .sl 3 (U.mks a_4_2 ((U.mks a_3 ((U.mks a_2 ((U.mks a_1 (kk + 1)).2)).2)).2 + 1 + 1)).1], .st [.i .i64 ((U.mks a_4_2 ((U.mks a_3 ((U.mks a_2 ((U.mks a_1 (kk + 1)).2)).2)).2 + 1 + 1)).2), .s (txt ((U.mks a_4_2 ((U.mks a_3 ((U.mks a_2 ((U.mks a_1 (kk + 1)).2)).2)).2 + 1 + 1)).2 + 1)), .s (txt ((U.mks a_4_2 ((U.mks a_3 ((U.mks a_2 ((U.mks a_1 (kk + 1)).2)).2)).2 + 1 + 1)).2 + 1 + 1)), .i .i64 ((U.mks a_4_2 ((U.mks a_3 ((U.mks a_2 ((U.mks a_1 (kk + 1)).2)).2)).2 + 1 + 1)).2 + 1 + 1 + 1), .st [.i .i64 ((U.mks a_4_2 ((U.mks a_3 ((U.mks a_2 ((U.mks a_1 (kk + 1)).2)).2)).2 + 1 + 1)).2 + 1 + 1 + 1 + 1), .s (txt ((U.mks a_4_2 ((U.mks a_3 ((U.mks a_2 ((U.mks a_1 (kk + 1)).2)).2)).2 + 1 + 1)).2 + 1 + 1 + 1 + 1 + 1)), .sl 3 (U.mks a_5_4_2 ((U.mks a_4_2 ((U.mks a_3 ((U.mks a_2 ((U.mks a_1 (kk + 1)).2)).2)).2 + 1 + 1)).2 + 1 + 1 + 1 + 1 + 1 + 1)).1], .sl 9 (U.mks a_5_5 ((U.mks a_5_4_2 ((U.mks a_4_2 ((U.mks a_3 ((U.mks a_2 ((U.mks a_1 (kk + 1)).2)).2)).2 + 1 + 1)).2 + 1 + 1 + 1 + 1 + 1 + 1)).2)).1, .sl 11 (U.mks a_5_6 ((U.mks a_5_5 ((U.mks a_5_4_2 ((U.mks a_4_2 ((U.mks a_3 ((U.mks a_2 ((U.mks a_1 (kk + 1)).2)).2)).2 + 1 + 1)).2 + 1 + 1 + 1 + 1 + 1 + 1)).2)).2)).1]]) := hge
    refine V_seq (V_block ?_)
    have ht0 := markText_all (kk) (by omega) (by omega)
    repeat (first | refine gGP ?_ | refine qO (Q_index rfl rfl TE.h TI.h (by omega) hge) ?_ | refine qQ (Q_index rfl rfl TE.h TI.h (by omega) hge) ?_ | refine qO (Q_call rfl ht0 vA) ?_ | refine qQ (Q_call rfl ht0 vA) ?_)
    (first | refine V_cond rfl (fun hc3 => ?_) (fun hc3 => ?_) | refine V_seq (V_cond rfl (fun hc3 => ?_) (fun hc3 => ?_)))
    · simp at hc3
    refine V_skip ?_
    clear hc3
    have hm1 := ih0 a_0 a_1 a_2 a_3 a_4_0 a_4_1 a_4_2 a_5_0 a_5_1 a_5_2 a_5_3 a_5_4_0 a_5_4_1 a_5_4_2 a_5_5 a_5_6 hmem (kk + 1) (by omega) (by simp only [U.lf]; omega)
    change SpecP _ _ [.d (.sl 1 (U.mks a_1 (kk + 1)).1), _] [.i .i64 (U.mks a_1 (kk + 1)).2] at hm1
    have hs1 := mks_snd a_1 (kk + 1)
    repeat (first | refine gGP ?_ | refine qO (Q_index rfl rfl TE.h TI.h (by omega) hge) ?_ | refine qQ (Q_index rfl rfl TE.h TI.h (by omega) hge) ?_ | refine qO (Q_call rfl hm1 vA) ?_ | refine qQ (Q_call rfl hm1 vA) ?_)
    (first | refine V_cond rfl (fun hc3 => ?_) (fun hc3 => ?_) | refine V_seq (V_cond rfl (fun hc3 => ?_) (fun hc3 => ?_)))
    · exfalso; simp only [decide_eq_true_eq] at hc3; change (U.mks a_1 (kk + 1)).2 < 0 at hc3; omega
    refine V_skip ?_
    clear hc3
    have hm2 := ih1 a_0 a_1 a_2 a_3 a_4_0 a_4_1 a_4_2 a_5_0 a_5_1 a_5_2 a_5_3 a_5_4_0 a_5_4_1 a_5_4_2 a_5_5 a_5_6 hmem ((U.mks a_1 (kk + 1)).2) (by omega) (by simp only [U.lf]; omega)
    change SpecP _ _ [.d (.sl 4 (U.mks a_2 ((U.mks a_1 (kk + 1)).2)).1), _] [.i .i64 (U.mks a_2 ((U.mks a_1 (kk + 1)).2)).2] at hm2
    have hs2 := mks_snd a_2 ((U.mks a_1 (kk + 1)).2)
    repeat (first | refine gGP ?_ | refine qO (Q_index rfl rfl TE.h TI.h (by omega) hge) ?_ | refine qQ (Q_index rfl rfl TE.h TI.h (by omega) hge) ?_ | refine qO (Q_call rfl hm2 vA) ?_ | refine qQ (Q_call rfl hm2 vA) ?_)
    (first | refine V_cond rfl (fun hc3 => ?_) (fun hc3 => ?_) | refine V_seq (V_cond rfl (fun hc3 => ?_) (fun hc3 => ?_)))
    · exfalso; simp only [decide_eq_true_eq] at hc3; change (U.mks a_2 ((U.mks a_1 (kk + 1)).2)).2 < 0 at hc3; omega
    refine V_skip ?_
    clear hc3
    have hm3 := ih2 a_0 a_1 a_2 a_3 a_4_0 a_4_1 a_4_2 a_5_0 a_5_1 a_5_2 a_5_3 a_5_4_0 a_5_4_1 a_5_4_2 a_5_5 a_5_6 hmem ((U.mks a_2 ((U.mks a_1 (kk + 1)).2)).2) (by omega) (by simp only [U.lf]; omega)
    change SpecP _ _ [.d (.sl 4 (U.mks a_3 ((U.mks a_2 ((U.mks a_1 (kk + 1)).2)).2)).1), _] [.i .i64 (U.mks a_3 ((U.mks a_2 ((U.mks a_1 (kk + 1)).2)).2)).2] at hm3
    have hs3 := mks_snd a_3 ((U.mks a_2 ((U.mks a_1 (kk + 1)).2)).2)
    repeat (first | refine gGP ?_ | refine qO (Q_index rfl rfl TE.h TI.h (by omega) hge) ?_ | refine qQ (Q_index rfl rfl TE.h TI.h (by omega) hge) ?_ | refine qO (Q_call rfl hm3 vA) ?_ | refine qQ (Q_call rfl hm3 vA) ?_)
    (first | refine V_cond rfl (fun hc3 => ?_) (fun hc3 => ?_) | refine V_seq (V_cond rfl (fun hc3 => ?_) (fun hc3 => ?_)))
    · exfalso; simp only [decide_eq_true_eq] at hc3; change (U.mks a_3 ((U.mks a_2 ((U.mks a_1 (kk + 1)).2)).2)).2 < 0 at hc3; omega
    refine V_skip ?_
    clear hc3
    repeat (first | refine gGP ?_ | refine qO (Q_index rfl rfl TE.h TI.h (by omega) hge) ?_ | refine qQ (Q_index rfl rfl TE.h TI.h (by omega) hge) ?_)
    (first | refine V_cond rfl (fun hc3 => ?_) (fun hc3 => ?_) | refine V_seq (V_cond rfl (fun hc3 => ?_) (fun hc3 => ?_)))
    · simp at hc3
    refine V_skip ?_
    clear hc3
    have ht5 := markText_all ((U.mks a_3 ((U.mks a_2 ((U.mks a_1 (kk + 1)).2)).2)).2 + 1) (by omega) (by omega)
    repeat (first | refine gGP ?_ | refine qO (Q_index rfl rfl TE.h TI.h (by omega) hge) ?_ | refine qQ (Q_index rfl rfl TE.h TI.h (by omega) hge) ?_ | refine qO (Q_call rfl ht5 vA) ?_ | refine qQ (Q_call rfl ht5 vA) ?_)
    (first | refine V_cond rfl (fun hc3 => ?_) (fun hc3 => ?_) | refine V_seq (V_cond rfl (fun hc3 => ?_) (fun hc3 => ?_)))
    · simp at hc3
    refine V_skip ?_
    clear hc3
    have hm6 := ih3 a_0 a_1 a_2 a_3 a_4_0 a_4_1 a_4_2 a_5_0 a_5_1 a_5_2 a_5_3 a_5_4_0 a_5_4_1 a_5_4_2 a_5_5 a_5_6 hmem ((U.mks a_3 ((U.mks a_2 ((U.mks a_1 (kk + 1)).2)).2)).2 + 1 + 1) (by omega) (by simp only [U.lf]; omega)
    change SpecP _ _ [.d (.sl 3 (U.mks a_4_2 ((U.mks a_3 ((U.mks a_2 ((U.mks a_1 (kk + 1)).2)).2)).2 + 1 + 1)).1), _] [.i .i64 (U.mks a_4_2 ((U.mks a_3 ((U.mks a_2 ((U.mks a_1 (kk + 1)).2)).2)).2 + 1 + 1)).2] at hm6
    have hs6 := mks_snd a_4_2 ((U.mks a_3 ((U.mks a_2 ((U.mks a_1 (kk + 1)).2)).2)).2 + 1 + 1)
    repeat (first | refine gGP ?_ | refine qO (Q_index rfl rfl TE.h TI.h (by omega) hge) ?_ | refine qQ (Q_index rfl rfl TE.h TI.h (by omega) hge) ?_ | refine qO (Q_call rfl hm6 vA) ?_ | refine qQ (Q_call rfl hm6 vA) ?_)
    (first | refine V_cond rfl (fun hc3 => ?_) (fun hc3 => ?_) | refine V_seq (V_cond rfl (fun hc3 => ?_) (fun hc3 => ?_)))
    · exfalso; simp only [decide_eq_true_eq] at hc3; change (U.mks a_4_2 ((U.mks a_3 ((U.mks a_2 ((U.mks a_1 (kk + 1)).2)).2)).2 + 1 + 1)).2 < 0 at hc3; omega
    refine V_skip ?_
    clear hc3
    repeat (first | refine gGP ?_ | refine qO (Q_index rfl rfl TE.h TI.h (by omega) hge) ?_ | refine qQ (Q_index rfl rfl TE.h TI.h (by omega) hge) ?_)
    (first | refine V_cond rfl (fun hc3 => ?_) (fun hc3 => ?_) | refine V_seq (V_cond rfl (fun hc3 => ?_) (fun hc3 => ?_)))
    · simp at hc3
    refine V_skip ?_
    clear hc3
    have ht8 := markText_all ((U.mks a_4_2 ((U.mks a_3 ((U.mks a_2 ((U.mks a_1 (kk + 1)).2)).2)).2 + 1 + 1)).2 + 1) (by omega) (by omega)
    repeat (first | refine gGP ?_ | refine qO (Q_index rfl rfl TE.h TI.h (by omega) hge) ?_ | refine qQ (Q_index rfl rfl TE.h TI.h (by omega) hge) ?_ | refine qO (Q_call rfl ht8 vA) ?_ | refine qQ (Q_call rfl ht8 vA) ?_)
    (first | refine V_cond rfl (fun hc3 => ?_) (fun hc3 => ?_) | refine V_seq (V_cond rfl (fun hc3 => ?_) (fun hc3 => ?_)))
    · simp at hc3
    refine V_skip ?_
    clear hc3
    have ht9 := markText_all ((U.mks a_4_2 ((U.mks a_3 ((U.mks a_2 ((U.mks a_1 (kk + 1)).2)).2)).2 + 1 + 1)).2 + 1 + 1) (by omega) (by omega)
    repeat (first | refine gGP ?_ | refine qO (Q_index rfl rfl TE.h TI.h (by omega) hge) ?_ | refine qQ (Q_index rfl rfl TE.h TI.h (by omega) hge) ?_ | refine qO (Q_call rfl ht9 vA) ?_ | refine qQ (Q_call rfl ht9 vA) ?_)
    (first | refine V_cond rfl (fun hc3 => ?_) (fun hc3 => ?_) | refine V_seq (V_cond rfl (fun hc3 => ?_) (fun hc3 => ?_)))
    · simp at hc3
    refine V_skip ?_
    clear hc3
    repeat (first | refine gGP ?_ | refine qO (Q_index rfl rfl TE.h TI.h (by omega) hge) ?_ | refine qQ (Q_index rfl rfl TE.h TI.h (by omega) hge) ?_)
    (first | refine V_cond rfl (fun hc3 => ?_) (fun hc3 => ?_) | refine V_seq (V_cond rfl (fun hc3 => ?_) (fun hc3 => ?_)))
    · simp at hc3
    refine V_skip ?_
    clear hc3
    repeat (first | refine gGP ?_ | refine qO (Q_index rfl rfl TE.h TI.h (by omega) hge) ?_ | refine qQ (Q_index rfl rfl TE.h TI.h (by omega) hge) ?_)
    (first | refine V_cond rfl (fun hc3 => ?_) (fun hc3 => ?_) | refine V_seq (V_cond rfl (fun hc3 => ?_) (fun hc3 => ?_)))
    · simp at hc3
    refine V_skip ?_
    clear hc3
    have ht12 := markText_all ((U.mks a_4_2 ((U.mks a_3 ((U.mks a_2 ((U.mks a_1 (kk + 1)).2)).2)).2 + 1 + 1)).2 + 1 + 1 + 1 + 1 + 1) (by omega) (by omega)
    repeat (first | refine gGP ?_ | refine qO (Q_index rfl rfl TE.h TI.h (by omega) hge) ?_ | refine qQ (Q_index rfl rfl TE.h TI.h (by omega) hge) ?_ | refine qO (Q_call rfl ht12 vA) ?_ | refine qQ (Q_call rfl ht12 vA) ?_)
    (first | refine V_cond rfl (fun hc3 => ?_) (fun hc3 => ?_) | refine V_seq (V_cond rfl (fun hc3 => ?_) (fun hc3 => ?_)))
    · simp at hc3
    refine V_skip ?_
    clear hc3
    have hm13 := ih4 a_0 a_1 a_2 a_3 a_4_0 a_4_1 a_4_2 a_5_0 a_5_1 a_5_2 a_5_3 a_5_4_0 a_5_4_1 a_5_4_2 a_5_5 a_5_6 hmem ((U.mks a_4_2 ((U.mks a_3 ((U.mks a_2 ((U.mks a_1 (kk + 1)).2)).2)).2 + 1 + 1)).2 + 1 + 1 + 1 + 1 + 1 + 1) (by omega) (by simp only [U.lf]; omega)
    change SpecP _ _ [.d (.sl 3 (U.mks a_5_4_2 ((U.mks a_4_2 ((U.mks a_3 ((U.mks a_2 ((U.mks a_1 (kk + 1)).2)).2)).2 + 1 + 1)).2 + 1 + 1 + 1 + 1 + 1 + 1)).1), _] [.i .i64 (U.mks a_5_4_2 ((U.mks a_4_2 ((U.mks a_3 ((U.mks a_2 ((U.mks a_1 (kk + 1)).2)).2)).2 + 1 + 1)).2 + 1 + 1 + 1 + 1 + 1 + 1)).2] at hm13
    have hs13 := mks_snd a_5_4_2 ((U.mks a_4_2 ((U.mks a_3 ((U.mks a_2 ((U.mks a_1 (kk + 1)).2)).2)).2 + 1 + 1)).2 + 1 + 1 + 1 + 1 + 1 + 1)
    repeat (first | refine gGP ?_ | refine qO (Q_index rfl rfl TE.h TI.h (by omega) hge) ?_ | refine qQ (Q_index rfl rfl TE.h TI.h (by omega) hge) ?_ | refine qO (Q_call rfl hm13 vA) ?_ | refine qQ (Q_call rfl hm13 vA) ?_)
    (first | refine V_cond rfl (fun hc3 => ?_) (fun hc3 => ?_) | refine V_seq (V_cond rfl (fun hc3 => ?_) (fun hc3 => ?_)))
    · exfalso; simp only [decide_eq_true_eq] at hc3; change (U.mks a_5_4_2 ((U.mks a_4_2 ((U.mks a_3 ((U.mks a_2 ((U.mks a_1 (kk + 1)).2)).2)).2 + 1 + 1)).2 + 1 + 1 + 1 + 1 + 1 + 1)).2 < 0 at hc3; omega
    refine V_skip ?_
    clear hc3
    have hm14 := ih5 a_0 a_1 a_2 a_3 a_4_0 a_4_1 a_4_2 a_5_0 a_5_1 a_5_2 a_5_3 a_5_4_0 a_5_4_1 a_5_4_2 a_5_5 a_5_6 hmem ((U.mks a_5_4_2 ((U.mks a_4_2 ((U.mks a_3 ((U.mks a_2 ((U.mks a_1 (kk + 1)).2)).2)).2 + 1 + 1)).2 + 1 + 1 + 1 + 1 + 1 + 1)).2) (by omega) (by simp only [U.lf]; omega)
    change SpecP _ _ [.d (.sl 9 (U.mks a_5_5 ((U.mks a_5_4_2 ((U.mks a_4_2 ((U.mks a_3 ((U.mks a_2 ((U.mks a_1 (kk + 1)).2)).2)).2 + 1 + 1)).2 + 1 + 1 + 1 + 1 + 1 + 1)).2)).1), _] [.i .i64 (U.mks a_5_5 ((U.mks a_5_4_2 ((U.mks a_4_2 ((U.mks a_3 ((U.mks a_2 ((U.mks a_1 (kk + 1)).2)).2)).2 + 1 + 1)).2 + 1 + 1 + 1 + 1 + 1 + 1)).2)).2] at hm14
    have hs14 := mks_snd a_5_5 ((U.mks a_5_4_2 ((U.mks a_4_2 ((U.mks a_3 ((U.mks a_2 ((U.mks a_1 (kk + 1)).2)).2)).2 + 1 + 1)).2 + 1 + 1 + 1 + 1 + 1 + 1)).2)
    repeat (first | refine gGP ?_ | refine qO (Q_index rfl rfl TE.h TI.h (by omega) hge) ?_ | refine qQ (Q_index rfl rfl TE.h TI.h (by omega) hge) ?_ | refine qO (Q_call rfl hm14 vA) ?_ | refine qQ (Q_call rfl hm14 vA) ?_)
    (first | refine V_cond rfl (fun hc3 => ?_) (fun hc3 => ?_) | refine V_seq (V_cond rfl (fun hc3 => ?_) (fun hc3 => ?_)))
    · exfalso; simp only [decide_eq_true_eq] at hc3; change (U.mks a_5_5 ((U.mks a_5_4_2 ((U.mks a_4_2 ((U.mks a_3 ((U.mks a_2 ((U.mks a_1 (kk + 1)).2)).2)).2 + 1 + 1)).2 + 1 + 1 + 1 + 1 + 1 + 1)).2)).2 < 0 at hc3; omega
    refine V_skip ?_
    clear hc3
    have hm15 := ih6 a_0 a_1 a_2 a_3 a_4_0 a_4_1 a_4_2 a_5_0 a_5_1 a_5_2 a_5_3 a_5_4_0 a_5_4_1 a_5_4_2 a_5_5 a_5_6 hmem ((U.mks a_5_5 ((U.mks a_5_4_2 ((U.mks a_4_2 ((U.mks a_3 ((U.mks a_2 ((U.mks a_1 (kk + 1)).2)).2)).2 + 1 + 1)).2 + 1 + 1 + 1 + 1 + 1 + 1)).2)).2) (by omega) (by simp only [U.lf]; omega)
    change SpecP _ _ [.d (.sl 11 (U.mks a_5_6 ((U.mks a_5_5 ((U.mks a_5_4_2 ((U.mks a_4_2 ((U.mks a_3 ((U.mks a_2 ((U.mks a_1 (kk + 1)).2)).2)).2 + 1 + 1)).2 + 1 + 1 + 1 + 1 + 1 + 1)).2)).2)).1), _] [.i .i64 (U.mks a_5_6 ((U.mks a_5_5 ((U.mks a_5_4_2 ((U.mks a_4_2 ((U.mks a_3 ((U.mks a_2 ((U.mks a_1 (kk + 1)).2)).2)).2 + 1 + 1)).2 + 1 + 1 + 1 + 1 + 1 + 1)).2)).2)).2] at hm15
    have hs15 := mks_snd a_5_6 ((U.mks a_5_5 ((U.mks a_5_4_2 ((U.mks a_4_2 ((U.mks a_3 ((U.mks a_2 ((U.mks a_1 (kk + 1)).2)).2)).2 + 1 + 1)).2 + 1 + 1 + 1 + 1 + 1 + 1)).2)).2)
    repeat (first | refine gGP ?_ | refine qO (Q_index rfl rfl TE.h TI.h (by omega) hge) ?_ | refine qQ (Q_index rfl rfl TE.h TI.h (by omega) hge) ?_ | refine qO (Q_call rfl hm15 vA) ?_ | refine qQ (Q_call rfl hm15 vA) ?_)
    (first | refine V_cond rfl (fun hc3 => ?_) (fun hc3 => ?_) | refine V_seq (V_cond rfl (fun hc3 => ?_) (fun hc3 => ?_)))
    · exfalso; simp only [decide_eq_true_eq] at hc3; change (U.mks a_5_6 ((U.mks a_5_5 ((U.mks a_5_4_2 ((U.mks a_4_2 ((U.mks a_3 ((U.mks a_2 ((U.mks a_1 (kk + 1)).2)).2)).2 + 1 + 1)).2 + 1 + 1 + 1 + 1 + 1 + 1)).2)).2)).2 < 0 at hc3; omega
    refine V_skip ?_
    clear hc3
    refine gGO ?_
    refine ⟨i + 1, by omega, by omega, ⟨rfl, ⟨⟨rfl, rfl⟩, ⟨?_, rfl⟩, ⟨rfl, rfl⟩, trivial⟩, ⟨[], rfl⟩, rfl⟩⟩
    rw [hnext]
    rfl
  · refine V_exit ?_
    simp only [decide_eq_false_iff_not] at hc2
    have hkl : i = us.length := by omega
    subst hkl
    show V _ _ _ _ _
    refine gGO ?_
    refine V_ret ?_
    refine ⟨trivial, ⟨_, rfl, ?_⟩, trivial⟩
    rw [List.take_length]
    exact rfl
theorem heldFunction_grp (u : U) : (∀ us, u = .sl 16 us → us.length ≤ big → (∀ x ∈ us, wt (.st 13) x) → PHe 80 u) := by
  refine U.ind (M := fun u => (∀ us, u = .sl 16 us → us.length ≤ big → (∀ x ∈ us, wt (.st 13) x) → PHe 80 u)) (fun u ih => ?_) u
  refine ?_
  · rintro us rfl hl hz
    exact heldFunctionS_step hl hz (fun a_0 a_1 a_2 a_3 a_4_0 a_4_1 a_4_2 a_5_0 a_5_1 a_5_2 a_5_3 a_5_4_0 a_5_4_1 a_5_4_2 a_5_5 a_5_6 ha => by obtain ⟨_, _, _, _, _, _, hx_a, qa_0, qa_1, qa_2, qa_3, qa_4, qa_5⟩ := inv_Function (hz _ ha); cases hx_a; obtain ⟨_, _, _, hx_a_4, qa_4_0, qa_4_1, qa_4_2⟩ := inv_Type qa_4; cases hx_a_4; obtain ⟨_, _, _, _, _, _, _, hx_a_5, qa_5_0, qa_5_1, qa_5_2, qa_5_3, qa_5_4, qa_5_5, qa_5_6⟩ := inv_Expr qa_5; cases hx_a_5; obtain ⟨_, _, _, hx_a_5_4, qa_5_4_0, qa_5_4_1, qa_5_4_2⟩ := inv_Type qa_5_4; cases hx_a_5_4; exact heldStringS_all qa_1) (fun a_0 a_1 a_2 a_3 a_4_0 a_4_1 a_4_2 a_5_0 a_5_1 a_5_2 a_5_3 a_5_4_0 a_5_4_1 a_5_4_2 a_5_5 a_5_6 ha => by obtain ⟨_, _, _, _, _, _, hx_a, qa_0, qa_1, qa_2, qa_3, qa_4, qa_5⟩ := inv_Function (hz _ ha); cases hx_a; obtain ⟨_, _, _, hx_a_4, qa_4_0, qa_4_1, qa_4_2⟩ := inv_Type qa_4; cases hx_a_4; obtain ⟨_, _, _, _, _, _, _, hx_a_5, qa_5_0, qa_5_1, qa_5_2, qa_5_3, qa_5_4, qa_5_5, qa_5_6⟩ := inv_Expr qa_5; cases hx_a_5; obtain ⟨_, _, _, hx_a_5_4, qa_5_4_0, qa_5_4_1, qa_5_4_2⟩ := inv_Type qa_5_4; cases hx_a_5_4; exact heldBoundS_all qa_2) (fun a_0 a_1 a_2 a_3 a_4_0 a_4_1 a_4_2 a_5_0 a_5_1 a_5_2 a_5_3 a_5_4_0 a_5_4_1 a_5_4_2 a_5_5 a_5_6 ha => by obtain ⟨_, _, _, _, _, _, hx_a, qa_0, qa_1, qa_2, qa_3, qa_4, qa_5⟩ := inv_Function (hz _ ha); cases hx_a; obtain ⟨_, _, _, hx_a_4, qa_4_0, qa_4_1, qa_4_2⟩ := inv_Type qa_4; cases hx_a_4; obtain ⟨_, _, _, _, _, _, _, hx_a_5, qa_5_0, qa_5_1, qa_5_2, qa_5_3, qa_5_4, qa_5_5, qa_5_6⟩ := inv_Expr qa_5; cases hx_a_5; obtain ⟨_, _, _, hx_a_5_4, qa_5_4_0, qa_5_4_1, qa_5_4_2⟩ := inv_Type qa_5_4; cases hx_a_5_4; exact heldParamS_all qa_3) (fun a_0 a_1 a_2 a_3 a_4_0 a_4_1 a_4_2 a_5_0 a_5_1 a_5_2 a_5_3 a_5_4_0 a_5_4_1 a_5_4_2 a_5_5 a_5_6 ha => by obtain ⟨_, _, _, _, _, _, hx_a, qa_0, qa_1, qa_2, qa_3, qa_4, qa_5⟩ := inv_Function (hz _ ha); cases hx_a; obtain ⟨_, _, _, hx_a_4, qa_4_0, qa_4_1, qa_4_2⟩ := inv_Type qa_4; cases hx_a_4; obtain ⟨_, _, _, _, _, _, _, hx_a_5, qa_5_0, qa_5_1, qa_5_2, qa_5_3, qa_5_4, qa_5_5, qa_5_6⟩ := inv_Expr qa_5; cases hx_a_5; obtain ⟨_, _, _, hx_a_5_4, qa_5_4_0, qa_5_4_1, qa_5_4_2⟩ := inv_Type qa_5_4; cases hx_a_5_4; exact heldTypeS_all qa_4_2) (fun a_0 a_1 a_2 a_3 a_4_0 a_4_1 a_4_2 a_5_0 a_5_1 a_5_2 a_5_3 a_5_4_0 a_5_4_1 a_5_4_2 a_5_5 a_5_6 ha => by obtain ⟨_, _, _, _, _, _, hx_a, qa_0, qa_1, qa_2, qa_3, qa_4, qa_5⟩ := inv_Function (hz _ ha); cases hx_a; obtain ⟨_, _, _, hx_a_4, qa_4_0, qa_4_1, qa_4_2⟩ := inv_Type qa_4; cases hx_a_4; obtain ⟨_, _, _, _, _, _, _, hx_a_5, qa_5_0, qa_5_1, qa_5_2, qa_5_3, qa_5_4, qa_5_5, qa_5_6⟩ := inv_Expr qa_5; cases hx_a_5; obtain ⟨_, _, _, hx_a_5_4, qa_5_4_0, qa_5_4_1, qa_5_4_2⟩ := inv_Type qa_5_4; cases hx_a_5_4; exact heldTypeS_all qa_5_4_2) (fun a_0 a_1 a_2 a_3 a_4_0 a_4_1 a_4_2 a_5_0 a_5_1 a_5_2 a_5_3 a_5_4_0 a_5_4_1 a_5_4_2 a_5_5 a_5_6 ha => by obtain ⟨_, _, _, _, _, _, hx_a, qa_0, qa_1, qa_2, qa_3, qa_4, qa_5⟩ := inv_Function (hz _ ha); cases hx_a; obtain ⟨_, _, _, hx_a_4, qa_4_0, qa_4_1, qa_4_2⟩ := inv_Type qa_4; cases hx_a_4; obtain ⟨_, _, _, _, _, _, _, hx_a_5, qa_5_0, qa_5_1, qa_5_2, qa_5_3, qa_5_4, qa_5_5, qa_5_6⟩ := inv_Expr qa_5; cases hx_a_5; obtain ⟨_, _, _, hx_a_5_4, qa_5_4_0, qa_5_4_1, qa_5_4_2⟩ := inv_Type qa_5_4; cases hx_a_5_4; exact heldExprS_all qa_5_5) (fun a_0 a_1 a_2 a_3 a_4_0 a_4_1 a_4_2 a_5_0 a_5_1 a_5_2 a_5_3 a_5_4_0 a_5_4_1 a_5_4_2 a_5_5 a_5_6 ha => by obtain ⟨_, _, _, _, _, _, hx_a, qa_0, qa_1, qa_2, qa_3, qa_4, qa_5⟩ := inv_Function (hz _ ha); cases hx_a; obtain ⟨_, _, _, hx_a_4, qa_4_0, qa_4_1, qa_4_2⟩ := inv_Type qa_4; cases hx_a_4; obtain ⟨_, _, _, _, _, _, _, hx_a_5, qa_5_0, qa_5_1, qa_5_2, qa_5_3, qa_5_4, qa_5_5, qa_5_6⟩ := inv_Expr qa_5; cases hx_a_5; obtain ⟨_, _, _, hx_a_5_4, qa_5_4_0, qa_5_4_1, qa_5_4_2⟩ := inv_Type qa_5_4; cases hx_a_5_4; exact heldArmS_all qa_5_6)
theorem heldFunctionS_all {us : List U} (h : us.length ≤ big ∧ ∀ x ∈ us, wt (.st 13) x) : PHe 80 (.sl 16 us) := (heldFunction_grp (.sl 16 us)) us rfl h.1 h.2
set_option maxRecDepth 8000 in
set_option maxHeartbeats 8000000 in
theorem heldPackageS_step {us : List U} (hl : us.length ≤ big) (hz : ∀ a ∈ us, wt (.st 14) a) (ih0 : ∀ (a_0 : List UInt8) (a_1 : List U) (a_2 : List U) (a_3 : List U) (a_4 : List U) (a_5 : List U), .st [.s a_0, .sl 1 a_1, .sl 5 a_2, .sl 3 a_3, .sl 12 a_4, .sl 16 a_5] ∈ us → PHe 76 (.sl 1 a_1)) (ih1 : ∀ (a_0 : List UInt8) (a_1 : List U) (a_2 : List U) (a_3 : List U) (a_4 : List U) (a_5 : List U), .st [.s a_0, .sl 1 a_1, .sl 5 a_2, .sl 3 a_3, .sl 12 a_4, .sl 16 a_5] ∈ us → PHe 77 (.sl 5 a_2)) (ih2 : ∀ (a_0 : List UInt8) (a_1 : List U) (a_2 : List U) (a_3 : List U) (a_4 : List U) (a_5 : List U), .st [.s a_0, .sl 1 a_1, .sl 5 a_2, .sl 3 a_3, .sl 12 a_4, .sl 16 a_5] ∈ us → PHe 78 (.sl 3 a_3)) (ih3 : ∀ (a_0 : List UInt8) (a_1 : List U) (a_2 : List U) (a_3 : List U) (a_4 : List U) (a_5 : List U), .st [.s a_0, .sl 1 a_1, .sl 5 a_2, .sl 3 a_3, .sl 12 a_4, .sl 16 a_5] ∈ us → PHe 79 (.sl 12 a_4)) (ih4 : ∀ (a_0 : List UInt8) (a_1 : List U) (a_2 : List U) (a_3 : List U) (a_4 : List U) (a_5 : List U), .st [.s a_0, .sl 1 a_1, .sl 5 a_2, .sl 3 a_3, .sl 12 a_4, .sl 16 a_5] ∈ us → PHe 80 (.sl 16 a_5)) : PHe 33 (.sl 6 us) := by
  intro k0 hk0 hk1
  have hlf : (U.sl 6 us).lf = U.lfs us := rfl
  rw [hlf] at hk1
  rw [big_eq] at hl
  show SpecP _ _ [.d (.sl 6 (U.mks us k0).1), .d (.i .i64 k0)] [.i .i64 (U.mks us k0).2]
  obtain ⟨ms, hms⟩ : ∃ ms, (U.mks us k0).1 = ms := ⟨_, rfl⟩
  have hml : ms.length = us.length := by rw [← hms, mks_len]
  have hel : ∀ (i : Nat) (a : U), us[i]? = some a → ms[i]? = some (a.mk (U.mks (us.take i) k0).2).1 := fun i a h => by rw [← hms]; exact mks_get h k0
  rw [hms]
  refine SpecP_intro Tryz.func33 rfl (by kernel_rfl) rfl fun A _ => ?_
  refine gGO ?_
  refine V_block ?_
  refine V_loop (α := Nat)
    (fun i => ⟨[(0, .d (.sl 6 ms)), (1, .d (.i .i64 (U.mks (us.take i) k0).2)), (5, .d (.i .i64 i))], [], Tryz.f33.ntmps⟩)
    (fun i => i ≤ us.length)
    (fun i => us.length - i) 0 ⟨rfl, ⟨⟨rfl, rfl⟩, ⟨rfl, rfl⟩, ⟨rfl, rfl⟩, trivial⟩, ⟨[], rfl⟩, rfl⟩ (by simp) ?_
  intro i hi
  refine gGO ?_
  (first | refine V_cond rfl (fun hc2 => ?_) (fun hc2 => ?_) | refine V_seq (V_cond rfl (fun hc2 => ?_) (fun hc2 => ?_)))
  · refine V_skip ?_
    simp only [decide_eq_true_eq] at hc2
    have hil : i < us.length := by omega
    obtain ⟨a, hget⟩ : ∃ a, us[i]? = some a := ⟨_, List.getElem?_eq_getElem hil⟩
    have hmem := List.mem_of_getElem? hget
    have hnext := (mks_next hget k0).2
    have hmid := lfs_mid hget
    have hsnd := mks_snd (us.take i) k0
    have hge := hel i a hget
    have hwa := hz a hmem
    obtain ⟨a_0, a_1, a_2, a_3, a_4, a_5, rfl, hwa_0, hwa_1, hwa_2, hwa_3, hwa_4, hwa_5⟩ := inv_Package hwa
    have hlfa : ((.st [.s a_0, .sl 1 a_1, .sl 5 a_2, .sl 3 a_3, .sl 12 a_4, .sl 16 a_5]) : U).lf = 0 + 1 + U.lfs a_1 + U.lfs a_2 + U.lfs a_3 + U.lfs a_4 + U.lfs a_5 := by simp [U.lf, U.lfs] <;> omega
    rw [hlfa] at hmid
    have hkp : 0 < (U.mks (us.take i) k0).2 := by omega
    have hkb : (U.mks (us.take i) k0).2 + (0 + 1 + U.lfs a_1 + U.lfs a_2 + U.lfs a_3 + U.lfs a_4 + U.lfs a_5 : Nat) ≤ 4611686018427387904 := by omega
    clear hsnd hlfa hmid
    generalize (U.mks (us.take i) k0).2 = kk at hnext hkp hkb hge ⊢
    have hge : ms[i]? = some (.st [.s (txt (kk)), .sl 1 (U.mks a_1 (kk + 1)).1, .sl 5 (U.mks a_2 ((U.mks a_1 (kk + 1)).2)).1, .sl 3 (U.mks a_3 ((U.mks a_2 ((U.mks a_1 (kk + 1)).2)).2)).1, .sl 12 (U.mks a_4 ((U.mks a_3 ((U.mks a_2 ((U.mks a_1 (kk + 1)).2)).2)).2)).1, .sl 16 (U.mks a_5 ((U.mks a_4 ((U.mks a_3 ((U.mks a_2 ((U.mks a_1 (kk + 1)).2)).2)).2)).2)).1]) := hge
    refine V_seq (V_block ?_)
    have ht0 := markText_all (kk) (by omega) (by omega)
    repeat (first | refine gGP ?_ | refine qO (Q_index rfl rfl TE.h TI.h (by omega) hge) ?_ | refine qQ (Q_index rfl rfl TE.h TI.h (by omega) hge) ?_ | refine qO (Q_call rfl ht0 vA) ?_ | refine qQ (Q_call rfl ht0 vA) ?_)
    (first | refine V_cond rfl (fun hc3 => ?_) (fun hc3 => ?_) | refine V_seq (V_cond rfl (fun hc3 => ?_) (fun hc3 => ?_)))
    · simp at hc3
    refine V_skip ?_
    clear hc3
    have hm1 := ih0 a_0 a_1 a_2 a_3 a_4 a_5 hmem (kk + 1) (by omega) (by simp only [U.lf]; omega)
    change SpecP _ _ [.d (.sl 1 (U.mks a_1 (kk + 1)).1), _] [.i .i64 (U.mks a_1 (kk + 1)).2] at hm1
    have hs1 := mks_snd a_1 (kk + 1)
    repeat (first | refine gGP ?_ | refine qO (Q_index rfl rfl TE.h TI.h (by omega) hge) ?_ | refine qQ (Q_index rfl rfl TE.h TI.h (by omega) hge) ?_ | refine qO (Q_call rfl hm1 vA) ?_ | refine qQ (Q_call rfl hm1 vA) ?_)
    (first | refine V_cond rfl (fun hc3 => ?_) (fun hc3 => ?_) | refine V_seq (V_cond rfl (fun hc3 => ?_) (fun hc3 => ?_)))
    · exfalso; simp only [decide_eq_true_eq] at hc3; change (U.mks a_1 (kk + 1)).2 < 0 at hc3; omega
    refine V_skip ?_
    clear hc3
    have hm2 := ih1 a_0 a_1 a_2 a_3 a_4 a_5 hmem ((U.mks a_1 (kk + 1)).2) (by omega) (by simp only [U.lf]; omega)
    change SpecP _ _ [.d (.sl 5 (U.mks a_2 ((U.mks a_1 (kk + 1)).2)).1), _] [.i .i64 (U.mks a_2 ((U.mks a_1 (kk + 1)).2)).2] at hm2
    have hs2 := mks_snd a_2 ((U.mks a_1 (kk + 1)).2)
    repeat (first | refine gGP ?_ | refine qO (Q_index rfl rfl TE.h TI.h (by omega) hge) ?_ | refine qQ (Q_index rfl rfl TE.h TI.h (by omega) hge) ?_ | refine qO (Q_call rfl hm2 vA) ?_ | refine qQ (Q_call rfl hm2 vA) ?_)
    (first | refine V_cond rfl (fun hc3 => ?_) (fun hc3 => ?_) | refine V_seq (V_cond rfl (fun hc3 => ?_) (fun hc3 => ?_)))
    · exfalso; simp only [decide_eq_true_eq] at hc3; change (U.mks a_2 ((U.mks a_1 (kk + 1)).2)).2 < 0 at hc3; omega
    refine V_skip ?_
    clear hc3
    have hm3 := ih2 a_0 a_1 a_2 a_3 a_4 a_5 hmem ((U.mks a_2 ((U.mks a_1 (kk + 1)).2)).2) (by omega) (by simp only [U.lf]; omega)
    change SpecP _ _ [.d (.sl 3 (U.mks a_3 ((U.mks a_2 ((U.mks a_1 (kk + 1)).2)).2)).1), _] [.i .i64 (U.mks a_3 ((U.mks a_2 ((U.mks a_1 (kk + 1)).2)).2)).2] at hm3
    have hs3 := mks_snd a_3 ((U.mks a_2 ((U.mks a_1 (kk + 1)).2)).2)
    repeat (first | refine gGP ?_ | refine qO (Q_index rfl rfl TE.h TI.h (by omega) hge) ?_ | refine qQ (Q_index rfl rfl TE.h TI.h (by omega) hge) ?_ | refine qO (Q_call rfl hm3 vA) ?_ | refine qQ (Q_call rfl hm3 vA) ?_)
    (first | refine V_cond rfl (fun hc3 => ?_) (fun hc3 => ?_) | refine V_seq (V_cond rfl (fun hc3 => ?_) (fun hc3 => ?_)))
    · exfalso; simp only [decide_eq_true_eq] at hc3; change (U.mks a_3 ((U.mks a_2 ((U.mks a_1 (kk + 1)).2)).2)).2 < 0 at hc3; omega
    refine V_skip ?_
    clear hc3
    have hm4 := ih3 a_0 a_1 a_2 a_3 a_4 a_5 hmem ((U.mks a_3 ((U.mks a_2 ((U.mks a_1 (kk + 1)).2)).2)).2) (by omega) (by simp only [U.lf]; omega)
    change SpecP _ _ [.d (.sl 12 (U.mks a_4 ((U.mks a_3 ((U.mks a_2 ((U.mks a_1 (kk + 1)).2)).2)).2)).1), _] [.i .i64 (U.mks a_4 ((U.mks a_3 ((U.mks a_2 ((U.mks a_1 (kk + 1)).2)).2)).2)).2] at hm4
    have hs4 := mks_snd a_4 ((U.mks a_3 ((U.mks a_2 ((U.mks a_1 (kk + 1)).2)).2)).2)
    repeat (first | refine gGP ?_ | refine qO (Q_index rfl rfl TE.h TI.h (by omega) hge) ?_ | refine qQ (Q_index rfl rfl TE.h TI.h (by omega) hge) ?_ | refine qO (Q_call rfl hm4 vA) ?_ | refine qQ (Q_call rfl hm4 vA) ?_)
    (first | refine V_cond rfl (fun hc3 => ?_) (fun hc3 => ?_) | refine V_seq (V_cond rfl (fun hc3 => ?_) (fun hc3 => ?_)))
    · exfalso; simp only [decide_eq_true_eq] at hc3; change (U.mks a_4 ((U.mks a_3 ((U.mks a_2 ((U.mks a_1 (kk + 1)).2)).2)).2)).2 < 0 at hc3; omega
    refine V_skip ?_
    clear hc3
    have hm5 := ih4 a_0 a_1 a_2 a_3 a_4 a_5 hmem ((U.mks a_4 ((U.mks a_3 ((U.mks a_2 ((U.mks a_1 (kk + 1)).2)).2)).2)).2) (by omega) (by simp only [U.lf]; omega)
    change SpecP _ _ [.d (.sl 16 (U.mks a_5 ((U.mks a_4 ((U.mks a_3 ((U.mks a_2 ((U.mks a_1 (kk + 1)).2)).2)).2)).2)).1), _] [.i .i64 (U.mks a_5 ((U.mks a_4 ((U.mks a_3 ((U.mks a_2 ((U.mks a_1 (kk + 1)).2)).2)).2)).2)).2] at hm5
    have hs5 := mks_snd a_5 ((U.mks a_4 ((U.mks a_3 ((U.mks a_2 ((U.mks a_1 (kk + 1)).2)).2)).2)).2)
    repeat (first | refine gGP ?_ | refine qO (Q_index rfl rfl TE.h TI.h (by omega) hge) ?_ | refine qQ (Q_index rfl rfl TE.h TI.h (by omega) hge) ?_ | refine qO (Q_call rfl hm5 vA) ?_ | refine qQ (Q_call rfl hm5 vA) ?_)
    (first | refine V_cond rfl (fun hc3 => ?_) (fun hc3 => ?_) | refine V_seq (V_cond rfl (fun hc3 => ?_) (fun hc3 => ?_)))
    · exfalso; simp only [decide_eq_true_eq] at hc3; change (U.mks a_5 ((U.mks a_4 ((U.mks a_3 ((U.mks a_2 ((U.mks a_1 (kk + 1)).2)).2)).2)).2)).2 < 0 at hc3; omega
    refine V_skip ?_
    clear hc3
    refine gGO ?_
    refine ⟨i + 1, by omega, by omega, ⟨rfl, ⟨⟨rfl, rfl⟩, ⟨?_, rfl⟩, ⟨rfl, rfl⟩, trivial⟩, ⟨[], rfl⟩, rfl⟩⟩
    rw [hnext]
    rfl
  · refine V_exit ?_
    simp only [decide_eq_false_iff_not] at hc2
    have hkl : i = us.length := by omega
    subst hkl
    show V _ _ _ _ _
    refine gGO ?_
    refine V_ret ?_
    refine ⟨trivial, ⟨_, rfl, ?_⟩, trivial⟩
    rw [List.take_length]
    exact rfl
theorem heldPackage_grp (u : U) : (∀ us, u = .sl 6 us → us.length ≤ big → (∀ x ∈ us, wt (.st 14) x) → PHe 33 u) := by
  refine U.ind (M := fun u => (∀ us, u = .sl 6 us → us.length ≤ big → (∀ x ∈ us, wt (.st 14) x) → PHe 33 u)) (fun u ih => ?_) u
  refine ?_
  · rintro us rfl hl hz
    exact heldPackageS_step hl hz (fun a_0 a_1 a_2 a_3 a_4 a_5 ha => by obtain ⟨_, _, _, _, _, _, hx_a, qa_0, qa_1, qa_2, qa_3, qa_4, qa_5⟩ := inv_Package (hz _ ha); cases hx_a; exact heldStringS_all qa_1) (fun a_0 a_1 a_2 a_3 a_4 a_5 ha => by obtain ⟨_, _, _, _, _, _, hx_a, qa_0, qa_1, qa_2, qa_3, qa_4, qa_5⟩ := inv_Package (hz _ ha); cases hx_a; exact heldTraitS_all qa_2) (fun a_0 a_1 a_2 a_3 a_4 a_5 ha => by obtain ⟨_, _, _, _, _, _, hx_a, qa_0, qa_1, qa_2, qa_3, qa_4, qa_5⟩ := inv_Package (hz _ ha); cases hx_a; exact heldDataTypeS_all qa_3) (fun a_0 a_1 a_2 a_3 a_4 a_5 ha => by obtain ⟨_, _, _, _, _, _, hx_a, qa_0, qa_1, qa_2, qa_3, qa_4, qa_5⟩ := inv_Package (hz _ ha); cases hx_a; exact heldInstanceS_all qa_4) (fun a_0 a_1 a_2 a_3 a_4 a_5 ha => by obtain ⟨_, _, _, _, _, _, hx_a, qa_0, qa_1, qa_2, qa_3, qa_4, qa_5⟩ := inv_Package (hz _ ha); cases hx_a; exact heldFunctionS_all qa_5)
theorem heldPackageS_all {us : List U} (h : us.length ≤ big ∧ ∀ x ∈ us, wt (.st 14) x) : PHe 33 (.sl 6 us) := (heldPackage_grp (.sl 6 us)) us rfl h.1 h.2
set_option maxRecDepth 8000 in
set_option maxHeartbeats 8000000 in
theorem heldProgram_step {f0 : List U} (h0 : PHe 33 (.sl 6 f0)) : PHe 11 (.st [.sl 6 f0]) := by
  intro k0 hk0 hk1
  have hlf : ((.st [.sl 6 f0]) : U).lf = 0 + U.lfs f0 := by simp [U.lf, U.lfs] <;> omega
  rw [hlf] at hk1
  show SpecP _ _ [.d (.st [.sl 6 (U.mks f0 (k0)).1]), .d (.i .i64 k0)] [.i .i64 ((U.mks f0 (k0)).2)]
  refine SpecP_intro Tryz.func11 rfl (by kernel_rfl) rfl fun A _ => ?_
  have hm0 := h0 (k0) (by omega) (by simp only [U.lf, U.lfs]; omega)
  have hs_f0 := mks_snd f0 (k0)
  repeat (first | refine gGP ?_ | refine qO (Q_call rfl hm0 vA) ?_ | refine qQ (Q_call rfl hm0 vA) ?_)
  (first | refine V_cond rfl (fun hc3 => ?_) (fun hc3 => ?_) | refine V_seq (V_cond rfl (fun hc3 => ?_) (fun hc3 => ?_)))
  · exfalso; simp only [decide_eq_true_eq] at hc3; change (U.mks f0 (k0)).2 < 0 at hc3; omega
  refine V_skip ?_
  clear hc3
  refine gGO ?_
  refine V_ret ?_
  exact ⟨trivial, ⟨_, rfl, rfl⟩, trivial⟩
theorem heldProgram_all {u : U} (h : wt (.st 15) u) : PHe 11 u := by
  obtain ⟨f0, rfl, p0⟩ := inv_Program h
  exact heldProgram_step (heldPackageS_all p0)
end Go.Proofs.YthojhakapbfbiaaGreat
