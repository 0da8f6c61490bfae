/- The contracts of the laws' own helpers that own or turn memory. Written by a program of mine (famO.py). -/
import Derived.Test.YthojhakapbfbiaaGreatOwnR
import Derived.Test.YthojhakapbfbiaaGreatEng48
set_option linter.unusedVariables false
set_option linter.unusedSimpArgs false
namespace Go.Proofs.YthojhakapbfbiaaGreat
open Go Go.Eng
attribute [local irreducible] V VO VQ VY Quiet SpecP SpecO MSpec
theorem markText_all (k : Int) (h0 : 0 < k) (h1 : k ≤ 4611686018427387904) : SpecP Tryz.prog 60 [.d (.i .i64 k)] [.s (txt k)] := by
  obtain ⟨n, rfl⟩ := Int.eq_ofNat_of_zero_le (Int.le_of_lt h0)
  show SpecP _ _ [.d (.i .i64 (n : Int))] [.s (109 :: dg 64 n [])]
  have hl := dg_len 64 n []
  obtain ⟨out, hout⟩ : ∃ out, dg 64 n [] = out := ⟨_, rfl⟩
  rw [hout] at hl ⊢
  simp only [List.length_nil, Nat.zero_add] at hl
  refine SpecP_intro Tryz.func60 rfl (by kernel_rfl) rfl fun A _ => ?_
  refine gGO ?_
  (first | refine V_cond rfl (fun hc => ?_) (fun hc => ?_) | refine V_seq (V_cond rfl (fun hc => ?_) (fun hc => ?_)))
  · simp at hc; omega
  refine V_skip ?_
  refine gGO ?_
  refine V_seq (V_block ?_)
  refine V_loop (α := Nat × Nat × List UInt8)
    (fun x => ⟨[(0, .d (.i .i64 (x.2.1 : Int))), (3, .d (.s x.2.2))], [], Tryz.f60.ntmps⟩)
    (fun x => x.2.1 ≤ n ∧ dg x.1 x.2.1 x.2.2 = out ∧ x.2.2.length + x.1 ≤ 64 ∧ x.2.1 < 10 ^ x.1)
    (fun x => x.2.1) (64, n, []) ⟨rfl, ⟨⟨rfl, rfl⟩, ⟨rfl, rfl⟩, trivial⟩, ⟨[], rfl⟩, rfl⟩ ⟨Nat.le_refl _, hout, by simp, by simp only; omega⟩ ?_
  rintro ⟨f, m, acc⟩ ⟨j1, j2, j3, j4⟩
  simp only at j1 j2 j3 j4
  refine gGO ?_
  (first | refine V_cond rfl (fun hc2 => ?_) (fun hc2 => ?_) | refine V_seq (V_cond rfl (fun hc2 => ?_) (fun hc2 => ?_)))
  · refine V_skip ?_
    simp only [gt_iff_lt, decide_eq_true_eq] at hc2
    cases f with
    | zero => simp at j4; omega
    | succ f =>
    rw [dg, if_neg (by omega)] at j2
    refine V_block ?_
    repeat (first | refine gGP ?_ | refine qO (Q_rem (n := 10) rfl rfl rfl) ?_ | refine qQ (Q_rem (n := 10) rfl rfl rfl) ?_ | refine qO (Q_convI rfl TU.h TU.h) ?_ | refine qQ (Q_convI rfl TU.h TU.h) ?_)
    refine VR_slit1 (by repeat constructor) (by decide) TE.h TI.h TZ.h rfl rfl rfl (by repeat constructor) (by repeat constructor) ?_
    repeat (first | refine gGP ?_ | refine qO (Q_convB1 rfl rfl (tyE_und TE.h) TU.h TS.h) ?_ | refine qQ (Q_convB1 rfl rfl (tyE_und TE.h) TU.h TS.h) ?_ | refine qO (Q_adds rfl rfl (by rw [big_eq]; simp only [List.length_cons, List.length_nil]; omega)) ?_ | refine qQ (Q_adds rfl rfl (by rw [big_eq]; simp only [List.length_cons, List.length_nil]; omega)) ?_ | refine qO (Q_quo (m := m) (n := 10) rfl rfl rfl (by omega)) ?_ | refine qQ (Q_quo (m := m) (n := 10) rfl rfl rfl (by omega)) ?_)
    refine ⟨(f, m / 10, _ :: acc), ⟨?_, j2, ?_, ?_⟩, ?_, ⟨rfl, ⟨⟨rfl, rfl⟩, ⟨rfl, rfl⟩, trivial⟩, ⟨_, rfl⟩, rfl⟩⟩
    · simp only; omega
    · simp only [List.length_cons]; omega
    · simp only; rw [Nat.pow_succ] at j4; omega
    · simp only; omega
  refine V_exit ?_
  simp only [gt_iff_lt, decide_eq_false_iff_not] at hc2
  have hm : m = 0 := by omega
  subst hm
  have hacc : acc = out := by
    cases f with
    | zero => exact j2
    | succ f => rw [dg, if_pos rfl] at j2; exact j2
  subst hacc
  show V _ _ _ _ _
  repeat (first | refine gGP ?_ | refine qO (Q_adds rfl rfl (by rw [big_eq]; simp only [List.length_cons, List.length_nil]; omega)) ?_ | refine qQ (Q_adds rfl rfl (by rw [big_eq]; simp only [List.length_cons, List.length_nil]; omega)) ?_)
  refine V_ret ?_
  exact ⟨trivial, ⟨_, rfl, rfl⟩, trivial⟩
set_option maxRecDepth 8000 in
set_option maxHeartbeats 8000000 in
theorem markTypeS_step {us : List U} (hl : us.length ≤ big) (hz : ∀ a ∈ us, wt (.st 1) a) (ih0 : ∀ (a_0 : Int) (a_1 : List UInt8) (a_2 : List U), .st [.i .i64 a_0, .s a_1, .sl 3 a_2] ∈ us → PMk 61 (.sl 3 a_2)) : PMk 61 (.sl 3 us) := by
  intro k0 hk0 hk1
  have hlf : (U.sl 3 us).lf = U.lfs us := rfl
  rw [hlf] at hk1
  rw [big_eq] at hl
  show MSpec _ _ _ _ (.sl 3 (U.mks us k0).1) (U.mks us k0).2
  refine MSpec_intro (fun hv e => [.ownp (hv 0) (e 0) 3 us]) (fun hv e => [.ownp (hv 0) (e 0) 3 (U.mks us k0).1]) Tryz.func61 rfl (by kernel_rfl) rfl rfl (fun _ _ => .sl) (fun _ _ => .sl) rfl rfl fun A hv e _ => ?_
  refine gGO ?_
  refine V_block ?_
  refine V_loop (α := Nat)
    (fun i => ⟨[(0, .sl 0 0), (1, .d (.i .i64 (U.mks (us.take i) k0).2)), (5, .d (.i .i64 i))], [.ownp (hv 0) (e 0) 3 ((U.mks (us.take i) k0).1 ++ us.drop i)], Tryz.f61.ntmps⟩)
    (fun i => i ≤ us.length)
    (fun i => us.length - i) 0 ⟨rfl, ⟨⟨rfl, rfl⟩, ⟨rfl, rfl⟩, ⟨rfl, rfl⟩, trivial⟩, ⟨[], rfl⟩, rfl⟩ (by simp) ?_
  intro i hi
  have hlen : ((U.mks (us.take i) k0).1 ++ us.drop i).length = us.length := by simp [mks_len]; omega
  refine gGO ?_
  (first | refine V_cond rfl (fun hc2 => ?_) (fun hc2 => ?_) | refine V_seq (V_cond rfl (fun hc2 => ?_) (fun hc2 => ?_)))
  · refine V_skip ?_
    simp only [decide_eq_true_eq] at hc2
    rw [hlen] at hc2
    have hil : i < us.length := by omega
    obtain ⟨a, hget⟩ : ∃ a, us[i]? = some a := ⟨_, List.getElem?_eq_getElem hil⟩
    have hmem := List.mem_of_getElem? hget
    have hdrop := drop_get hget
    obtain ⟨hn1, hn2⟩ := mks_next hget k0
    have hmid := lfs_mid hget
    have hsnd := mks_snd (us.take i) k0
    have hpl : (U.mks (us.take i) k0).1.length = i := by simp [mks_len]; omega
    have hwa := hz a hmem
    obtain ⟨a_0, a_1, a_2, rfl, hwa_0, hwa_1, hwa_2⟩ := inv_Type hwa
    have hlfa : ((.st [.i .i64 a_0, .s a_1, .sl 3 a_2]) : U).lf = 0 + 1 + 1 + U.lfs a_2 := by simp [U.lf, U.lfs] <;> omega
    rw [hlfa] at hmid
    refine V_cast [.ownp (hv 0) (e 0) 3 ((U.mks (us.take i) k0).1 ++ (.st [.i .i64 a_0, .s a_1, .sl 3 a_2]) :: us.drop (i + 1))] (by rw [hdrop]) ?_
    have hkp : 0 < (U.mks (us.take i) k0).2 := by omega
    have hkb : (U.mks (us.take i) k0).2 + (0 + 1 + 1 + U.lfs a_2 : Nat) ≤ 4611686018427387904 := by omega
    have hlen' : ((U.mks (us.take i) k0).1 ++ (.st [.i .i64 a_0, .s a_1, .sl 3 a_2]) :: us.drop (i + 1)).length = us.length := by rw [← hdrop]; exact hlen
    clear hdrop hsnd hlfa hmid hlen
    generalize (U.mks (us.take i) k0).1 = pre at hn1 hpl hlen' ⊢
    generalize (U.mks (us.take i) k0).2 = kk at hn1 hn2 hkp hkb ⊢
    generalize hpost : us.drop (i + 1) = post at hlen' ⊢
    rw [List.length_append, List.length_cons] at hlen'
    refine V_seq (V_block ?_)
    repeat (first | refine gGP ?_ | refine qO (Q_index_own rfl rfl .ownp rfl TE.h TI.h (by omega) (by rw [List.length_append, List.length_cons]; omega)) ?_ | refine qQ (Q_index_own rfl rfl .ownp rfl TE.h TI.h (by omega) (by rw [List.length_append, List.length_cons]; omega)) ?_)
    refine VR_storeF (v := .i .i64 (kk)) rfl rfl .ownp hpl rfl rfl TI.h (by repeat constructor) .ownp (by repeat constructor) ?_
    have ht1 := markText_all (kk + 1) (by omega) (by omega)
    repeat (first | refine gGP ?_ | refine qO (Q_index_own rfl rfl .ownp rfl TE.h TI.h (by omega) (by rw [List.length_append, List.length_cons]; omega)) ?_ | refine qQ (Q_index_own rfl rfl .ownp rfl TE.h TI.h (by omega) (by rw [List.length_append, List.length_cons]; omega)) ?_ | refine qO (Q_call rfl ht1 vA) ?_ | refine qQ (Q_call rfl ht1 vA) ?_)
    refine VR_storeF (v := .s (txt (kk + 1))) rfl rfl .ownp hpl rfl rfl TI.h (by repeat constructor) .ownp (by repeat constructor) ?_
    have hm2 := ih0 a_0 a_1 a_2 hmem (kk + 1 + 1) (by omega) (by simp only [U.lf]; omega)
    change MSpec _ _ _ _ (.sl 3 (U.mks a_2 (kk + 1 + 1)).1) (U.mks a_2 (kk + 1 + 1)).2 at hm2
    have hs2 := mks_snd a_2 (kk + 1 + 1)
    repeat (first | refine gGP ?_ | refine qO (Q_index_own rfl rfl .ownp rfl TE.h TI.h (by omega) (by rw [List.length_append, List.length_cons]; omega)) ?_ | refine qQ (Q_index_own rfl rfl .ownp rfl TE.h TI.h (by omega) (by rw [List.length_append, List.length_cons]; omega)) ?_)
    refine VR_markcall hm2 rfl rfl .ownp hpl TI.h (by repeat constructor) rfl rfl (by simp) .ownp (by repeat constructor) rfl rfl rfl (by decide) ?_
    refine gGO ?_
    refine ⟨i + 1, by omega, by omega, ⟨rfl, ⟨⟨rfl, rfl⟩, ⟨?_, rfl⟩, ⟨rfl, rfl⟩, trivial⟩, ⟨[], ?_⟩, rfl⟩⟩
    · rw [hn2]; rfl
    · rw [hn1, hpost, List.append_assoc]; rfl
  · refine V_exit ?_
    simp only [decide_eq_false_iff_not] at hc2
    rw [hlen] at hc2
    have hkl : i = us.length := by omega
    subst hkl
    show V _ _ _ _ _
    refine gGO ?_
    refine V_ret ?_
    refine ⟨trivial, ?_, [], ?_⟩
    · show SV.d (.i .i64 (U.mks (us.take us.length) k0).2) = _
      rw [List.take_length]
    · simp only [List.take_length, List.drop_length, List.append_nil]
theorem markType_grp (u : U) : (∀ us, u = .sl 3 us → us.length ≤ big → (∀ x ∈ us, wt (.st 1) x) → PMk 61 u) := by
  refine U.ind (M := fun u => (∀ us, u = .sl 3 us → us.length ≤ big → (∀ x ∈ us, wt (.st 1) x) → PMk 61 u)) (fun u ih => ?_) u
  refine ?_
  · rintro us rfl hl hz
    exact markTypeS_step hl hz (fun a_0 a_1 a_2 ha => by obtain ⟨_, _, _, hx_a, qa_0, qa_1, qa_2⟩ := inv_Type (hz _ ha); cases hx_a; exact (ih (.sl 3 a_2) (by have := nn_of_mem ha; simp only [U.nn, U.nns] at this ⊢; omega)) a_2 rfl qa_2.1 qa_2.2)
theorem markTypeS_all {us : List U} (h : us.length ≤ big ∧ ∀ x ∈ us, wt (.st 1) x) : PMk 61 (.sl 3 us) := (markType_grp (.sl 3 us)) us rfl h.1 h.2
set_option maxRecDepth 8000 in
set_option maxHeartbeats 8000000 in
theorem markStringS_step {us : List U} (hl : us.length ≤ big) (hz : ∀ a ∈ us, wt (.str) a) : PMk 57 (.sl 1 us) := by
  intro k0 hk0 hk1
  have hlf : (U.sl 1 us).lf = U.lfs us := rfl
  rw [hlf] at hk1
  rw [big_eq] at hl
  show MSpec _ _ _ _ (.sl 1 (U.mks us k0).1) (U.mks us k0).2
  refine MSpec_intro (fun hv e => [.ownp (hv 0) (e 0) 1 us]) (fun hv e => [.ownp (hv 0) (e 0) 1 (U.mks us k0).1]) Tryz.func57 rfl (by kernel_rfl) rfl rfl (fun _ _ => .sl) (fun _ _ => .sl) rfl rfl fun A hv e _ => ?_
  refine gGO ?_
  refine V_block ?_
  refine V_loop (α := Nat)
    (fun i => ⟨[(0, .sl 0 0), (1, .d (.i .i64 (U.mks (us.take i) k0).2)), (5, .d (.i .i64 i))], [.ownp (hv 0) (e 0) 1 ((U.mks (us.take i) k0).1 ++ us.drop i)], Tryz.f57.ntmps⟩)
    (fun i => i ≤ us.length)
    (fun i => us.length - i) 0 ⟨rfl, ⟨⟨rfl, rfl⟩, ⟨rfl, rfl⟩, ⟨rfl, rfl⟩, trivial⟩, ⟨[], rfl⟩, rfl⟩ (by simp) ?_
  intro i hi
  have hlen : ((U.mks (us.take i) k0).1 ++ us.drop i).length = us.length := by simp [mks_len]; omega
  refine gGO ?_
  (first | refine V_cond rfl (fun hc2 => ?_) (fun hc2 => ?_) | refine V_seq (V_cond rfl (fun hc2 => ?_) (fun hc2 => ?_)))
  · refine V_skip ?_
    simp only [decide_eq_true_eq] at hc2
    rw [hlen] at hc2
    have hil : i < us.length := by omega
    obtain ⟨a, hget⟩ : ∃ a, us[i]? = some a := ⟨_, List.getElem?_eq_getElem hil⟩
    have hmem := List.mem_of_getElem? hget
    have hdrop := drop_get hget
    obtain ⟨hn1, hn2⟩ := mks_next hget k0
    have hmid := lfs_mid hget
    have hsnd := mks_snd (us.take i) k0
    have hpl : (U.mks (us.take i) k0).1.length = i := by simp [mks_len]; omega
    obtain ⟨a, rfl, _⟩ := inv_str (hz a hmem)
    have hlfa : ((.s a) : U).lf = 0 + 1 := by simp [U.lf, U.lfs]
    rw [hlfa] at hmid
    refine V_cast [.ownp (hv 0) (e 0) 1 ((U.mks (us.take i) k0).1 ++ (.s a) :: us.drop (i + 1))] (by rw [hdrop]) ?_
    have hkp : 0 < (U.mks (us.take i) k0).2 := by omega
    have hkb : (U.mks (us.take i) k0).2 + (0 + 1 : Nat) ≤ 4611686018427387904 := by omega
    have hlen' : ((U.mks (us.take i) k0).1 ++ (.s a) :: us.drop (i + 1)).length = us.length := by rw [← hdrop]; exact hlen
    clear hdrop hsnd hlfa hmid hlen
    generalize (U.mks (us.take i) k0).1 = pre at hn1 hpl hlen' ⊢
    generalize (U.mks (us.take i) k0).2 = kk at hn1 hn2 hkp hkb ⊢
    generalize hpost : us.drop (i + 1) = post at hlen' ⊢
    rw [List.length_append, List.length_cons] at hlen'
    refine V_seq (V_block ?_)
    have ht0 := markText_all (kk) (by omega) (by omega)
    repeat (first | refine gGP ?_ | refine qO (Q_index_own rfl rfl .ownp rfl TE.h TI.h (by omega) (by rw [List.length_append, List.length_cons]; omega)) ?_ | refine qQ (Q_index_own rfl rfl .ownp rfl TE.h TI.h (by omega) (by rw [List.length_append, List.length_cons]; omega)) ?_ | refine qO (Q_call rfl ht0 vA) ?_ | refine qQ (Q_call rfl ht0 vA) ?_)
    refine VR_storeF (v := .s (txt (kk))) rfl rfl .ownp hpl rfl rfl TI.h (by repeat constructor) .ownp (by repeat constructor) ?_
    refine gGO ?_
    refine ⟨i + 1, by omega, by omega, ⟨rfl, ⟨⟨rfl, rfl⟩, ⟨?_, rfl⟩, ⟨rfl, rfl⟩, trivial⟩, ⟨[], ?_⟩, rfl⟩⟩
    · rw [hn2]; rfl
    · rw [hn1, hpost, List.append_assoc]; rfl
  · refine V_exit ?_
    simp only [decide_eq_false_iff_not] at hc2
    rw [hlen] at hc2
    have hkl : i = us.length := by omega
    subst hkl
    show V _ _ _ _ _
    refine gGO ?_
    refine V_ret ?_
    refine ⟨trivial, ?_, [], ?_⟩
    · show SV.d (.i .i64 (U.mks (us.take us.length) k0).2) = _
      rw [List.take_length]
    · simp only [List.take_length, List.drop_length, List.append_nil]
theorem markStringS_all {us : List U} (h : us.length ≤ big ∧ ∀ x ∈ us, wt .str x) : PMk 57 (.sl 1 us) := markStringS_step h.1 h.2
set_option maxRecDepth 8000 in
set_option maxHeartbeats 8000000 in
theorem markArmS_step {us : List U} (hl : us.length ≤ big) (hz : ∀ a ∈ us, wt (.st 3) a) (ih0 : ∀ (a_0 : List UInt8) (a_1 : List U) (a_2_0 : Int) (a_2_1 : List UInt8) (a_2_2 : List UInt8) (a_2_3 : Int) (a_2_4_0 : Int) (a_2_4_1 : List UInt8) (a_2_4_2 : List U) (a_2_5 : List U) (a_2_6 : List U), .st [.s a_0, .sl 1 a_1, .st [.i .i64 a_2_0, .s a_2_1, .s a_2_2, .i .i64 a_2_3, .st [.i .i64 a_2_4_0, .s a_2_4_1, .sl 3 a_2_4_2], .sl 9 a_2_5, .sl 11 a_2_6]] ∈ us → PMk 57 (.sl 1 a_1)) (ih1 : ∀ (a_0 : List UInt8) (a_1 : List U) (a_2_0 : Int) (a_2_1 : List UInt8) (a_2_2 : List UInt8) (a_2_3 : Int) (a_2_4_0 : Int) (a_2_4_1 : List UInt8) (a_2_4_2 : List U) (a_2_5 : List U) (a_2_6 : List U), .st [.s a_0, .sl 1 a_1, .st [.i .i64 a_2_0, .s a_2_1, .s a_2_2, .i .i64 a_2_3, .st [.i .i64 a_2_4_0, .s a_2_4_1, .sl 3 a_2_4_2], .sl 9 a_2_5, .sl 11 a_2_6]] ∈ us → PMk 61 (.sl 3 a_2_4_2)) (ih2 : ∀ (a_0 : List UInt8) (a_1 : List U) (a_2_0 : Int) (a_2_1 : List UInt8) (a_2_2 : List UInt8) (a_2_3 : Int) (a_2_4_0 : Int) (a_2_4_1 : List UInt8) (a_2_4_2 : List U) (a_2_5 : List U) (a_2_6 : List U), .st [.s a_0, .sl 1 a_1, .st [.i .i64 a_2_0, .s a_2_1, .s a_2_2, .i .i64 a_2_3, .st [.i .i64 a_2_4_0, .s a_2_4_1, .sl 3 a_2_4_2], .sl 9 a_2_5, .sl 11 a_2_6]] ∈ us → PMk 129 (.sl 9 a_2_5)) (ih3 : ∀ (a_0 : List UInt8) (a_1 : List U) (a_2_0 : Int) (a_2_1 : List UInt8) (a_2_2 : List UInt8) (a_2_3 : Int) (a_2_4_0 : Int) (a_2_4_1 : List UInt8) (a_2_4_2 : List U) (a_2_5 : List U) (a_2_6 : List U), .st [.s a_0, .sl 1 a_1, .st [.i .i64 a_2_0, .s a_2_1, .s a_2_2, .i .i64 a_2_3, .st [.i .i64 a_2_4_0, .s a_2_4_1, .sl 3 a_2_4_2], .sl 9 a_2_5, .sl 11 a_2_6]] ∈ us → PMk 130 (.sl 11 a_2_6)) : PMk 130 (.sl 11 us) := by
  intro k0 hk0 hk1
  have hlf : (U.sl 11 us).lf = U.lfs us := rfl
  rw [hlf] at hk1
  rw [big_eq] at hl
  show MSpec _ _ _ _ (.sl 11 (U.mks us k0).1) (U.mks us k0).2
  refine MSpec_intro (fun hv e => [.ownp (hv 0) (e 0) 11 us]) (fun hv e => [.ownp (hv 0) (e 0) 11 (U.mks us k0).1]) Tryz.func130 rfl (by kernel_rfl) rfl rfl (fun _ _ => .sl) (fun _ _ => .sl) rfl rfl fun A hv e _ => ?_
  refine gGO ?_
  refine V_block ?_
  refine V_loop (α := Nat)
    (fun i => ⟨[(0, .sl 0 0), (1, .d (.i .i64 (U.mks (us.take i) k0).2)), (5, .d (.i .i64 i))], [.ownp (hv 0) (e 0) 11 ((U.mks (us.take i) k0).1 ++ us.drop i)], Tryz.f130.ntmps⟩)
    (fun i => i ≤ us.length)
    (fun i => us.length - i) 0 ⟨rfl, ⟨⟨rfl, rfl⟩, ⟨rfl, rfl⟩, ⟨rfl, rfl⟩, trivial⟩, ⟨[], rfl⟩, rfl⟩ (by simp) ?_
  intro i hi
  have hlen : ((U.mks (us.take i) k0).1 ++ us.drop i).length = us.length := by simp [mks_len]; omega
  refine gGO ?_
  (first | refine V_cond rfl (fun hc2 => ?_) (fun hc2 => ?_) | refine V_seq (V_cond rfl (fun hc2 => ?_) (fun hc2 => ?_)))
  · refine V_skip ?_
    simp only [decide_eq_true_eq] at hc2
    rw [hlen] at hc2
    have hil : i < us.length := by omega
    obtain ⟨a, hget⟩ : ∃ a, us[i]? = some a := ⟨_, List.getElem?_eq_getElem hil⟩
    have hmem := List.mem_of_getElem? hget
    have hdrop := drop_get hget
    obtain ⟨hn1, hn2⟩ := mks_next hget k0
    have hmid := lfs_mid hget
    have hsnd := mks_snd (us.take i) k0
    have hpl : (U.mks (us.take i) k0).1.length = i := by simp [mks_len]; omega
    have hwa := hz a hmem
    obtain ⟨a_0, a_1, a_2, rfl, hwa_0, hwa_1, hwa_2⟩ := inv_Arm hwa
    obtain ⟨a_2_0, a_2_1, a_2_2, a_2_3, a_2_4, a_2_5, a_2_6, rfl, hwa_2_0, hwa_2_1, hwa_2_2, hwa_2_3, hwa_2_4, hwa_2_5, hwa_2_6⟩ := inv_Expr hwa_2
    obtain ⟨a_2_4_0, a_2_4_1, a_2_4_2, rfl, hwa_2_4_0, hwa_2_4_1, hwa_2_4_2⟩ := inv_Type hwa_2_4
    have hlfa : ((.st [.s a_0, .sl 1 a_1, .st [.i .i64 a_2_0, .s a_2_1, .s a_2_2, .i .i64 a_2_3, .st [.i .i64 a_2_4_0, .s a_2_4_1, .sl 3 a_2_4_2], .sl 9 a_2_5, .sl 11 a_2_6]]) : U).lf = 0 + 1 + U.lfs a_1 + 1 + 1 + 1 + 1 + 1 + 1 + U.lfs a_2_4_2 + U.lfs a_2_5 + U.lfs a_2_6 := by simp [U.lf, U.lfs] <;> omega
    rw [hlfa] at hmid
    refine V_cast [.ownp (hv 0) (e 0) 11 ((U.mks (us.take i) k0).1 ++ (.st [.s a_0, .sl 1 a_1, .st [.i .i64 a_2_0, .s a_2_1, .s a_2_2, .i .i64 a_2_3, .st [.i .i64 a_2_4_0, .s a_2_4_1, .sl 3 a_2_4_2], .sl 9 a_2_5, .sl 11 a_2_6]]) :: us.drop (i + 1))] (by rw [hdrop]) ?_
    have hkp : 0 < (U.mks (us.take i) k0).2 := by omega
    have hkb : (U.mks (us.take i) k0).2 + (0 + 1 + U.lfs a_1 + 1 + 1 + 1 + 1 + 1 + 1 + U.lfs a_2_4_2 + U.lfs a_2_5 + U.lfs a_2_6 : Nat) ≤ 4611686018427387904 := by omega
    have hlen' : ((U.mks (us.take i) k0).1 ++ (.st [.s a_0, .sl 1 a_1, .st [.i .i64 a_2_0, .s a_2_1, .s a_2_2, .i .i64 a_2_3, .st [.i .i64 a_2_4_0, .s a_2_4_1, .sl 3 a_2_4_2], .sl 9 a_2_5, .sl 11 a_2_6]]) :: us.drop (i + 1)).length = us.length := by rw [← hdrop]; exact hlen
    clear hdrop hsnd hlfa hmid hlen
    generalize (U.mks (us.take i) k0).1 = pre at hn1 hpl hlen' ⊢
    generalize (U.mks (us.take i) k0).2 = kk at hn1 hn2 hkp hkb ⊢
    generalize hpost : us.drop (i + 1) = post at hlen' ⊢
    rw [List.length_append, List.length_cons] at hlen'
    refine V_seq (V_block ?_)
    have ht0 := markText_all (kk) (by omega) (by omega)
    repeat (first | refine gGP ?_ | refine qO (Q_index_own rfl rfl .ownp rfl TE.h TI.h (by omega) (by rw [List.length_append, List.length_cons]; omega)) ?_ | refine qQ (Q_index_own rfl rfl .ownp rfl TE.h TI.h (by omega) (by rw [List.length_append, List.length_cons]; omega)) ?_ | refine qO (Q_call rfl ht0 vA) ?_ | refine qQ (Q_call rfl ht0 vA) ?_)
    refine VR_storeF (v := .s (txt (kk))) rfl rfl .ownp hpl rfl rfl TI.h (by repeat constructor) .ownp (by repeat constructor) ?_
    have hm1 := ih0 a_0 a_1 a_2_0 a_2_1 a_2_2 a_2_3 a_2_4_0 a_2_4_1 a_2_4_2 a_2_5 a_2_6 hmem (kk + 1) (by omega) (by simp only [U.lf]; omega)
    change MSpec _ _ _ _ (.sl 1 (U.mks a_1 (kk + 1)).1) (U.mks a_1 (kk + 1)).2 at hm1
    have hs1 := mks_snd a_1 (kk + 1)
    repeat (first | refine gGP ?_ | refine qO (Q_index_own rfl rfl .ownp rfl TE.h TI.h (by omega) (by rw [List.length_append, List.length_cons]; omega)) ?_ | refine qQ (Q_index_own rfl rfl .ownp rfl TE.h TI.h (by omega) (by rw [List.length_append, List.length_cons]; omega)) ?_)
    refine VR_markcall hm1 rfl rfl .ownp hpl TI.h (by repeat constructor) rfl rfl (by simp) .ownp (by repeat constructor) rfl rfl rfl (by decide) ?_
    repeat (first | refine gGP ?_ | refine qO (Q_index_own rfl rfl .ownp rfl TE.h TI.h (by omega) (by rw [List.length_append, List.length_cons]; omega)) ?_ | refine qQ (Q_index_own rfl rfl .ownp rfl TE.h TI.h (by omega) (by rw [List.length_append, List.length_cons]; omega)) ?_)
    refine VR_storeF (v := .i .i64 ((U.mks a_1 (kk + 1)).2)) rfl rfl .ownp hpl rfl rfl TI.h (by repeat constructor) .ownp (by repeat constructor) ?_
    have ht3 := markText_all ((U.mks a_1 (kk + 1)).2 + 1) (by omega) (by omega)
    repeat (first | refine gGP ?_ | refine qO (Q_index_own rfl rfl .ownp rfl TE.h TI.h (by omega) (by rw [List.length_append, List.length_cons]; omega)) ?_ | refine qQ (Q_index_own rfl rfl .ownp rfl TE.h TI.h (by omega) (by rw [List.length_append, List.length_cons]; omega)) ?_ | refine qO (Q_call rfl ht3 vA) ?_ | refine qQ (Q_call rfl ht3 vA) ?_)
    refine VR_storeF (v := .s (txt ((U.mks a_1 (kk + 1)).2 + 1))) rfl rfl .ownp hpl rfl rfl TI.h (by repeat constructor) .ownp (by repeat constructor) ?_
    have ht4 := markText_all ((U.mks a_1 (kk + 1)).2 + 1 + 1) (by omega) (by omega)
    repeat (first | refine gGP ?_ | refine qO (Q_index_own rfl rfl .ownp rfl TE.h TI.h (by omega) (by rw [List.length_append, List.length_cons]; omega)) ?_ | refine qQ (Q_index_own rfl rfl .ownp rfl TE.h TI.h (by omega) (by rw [List.length_append, List.length_cons]; omega)) ?_ | refine qO (Q_call rfl ht4 vA) ?_ | refine qQ (Q_call rfl ht4 vA) ?_)
    refine VR_storeF (v := .s (txt ((U.mks a_1 (kk + 1)).2 + 1 + 1))) rfl rfl .ownp hpl rfl rfl TI.h (by repeat constructor) .ownp (by repeat constructor) ?_
    repeat (first | refine gGP ?_ | refine qO (Q_index_own rfl rfl .ownp rfl TE.h TI.h (by omega) (by rw [List.length_append, List.length_cons]; omega)) ?_ | refine qQ (Q_index_own rfl rfl .ownp rfl TE.h TI.h (by omega) (by rw [List.length_append, List.length_cons]; omega)) ?_)
    refine VR_storeF (v := .i .i64 ((U.mks a_1 (kk + 1)).2 + 1 + 1 + 1)) rfl rfl .ownp hpl rfl rfl TI.h (by repeat constructor) .ownp (by repeat constructor) ?_
    repeat (first | refine gGP ?_ | refine qO (Q_index_own rfl rfl .ownp rfl TE.h TI.h (by omega) (by rw [List.length_append, List.length_cons]; omega)) ?_ | refine qQ (Q_index_own rfl rfl .ownp rfl TE.h TI.h (by omega) (by rw [List.length_append, List.length_cons]; omega)) ?_)
    refine VR_storeF (v := .i .i64 ((U.mks a_1 (kk + 1)).2 + 1 + 1 + 1 + 1)) rfl rfl .ownp hpl rfl rfl TI.h (by repeat constructor) .ownp (by repeat constructor) ?_
    have ht7 := markText_all ((U.mks a_1 (kk + 1)).2 + 1 + 1 + 1 + 1 + 1) (by omega) (by omega)
    repeat (first | refine gGP ?_ | refine qO (Q_index_own rfl rfl .ownp rfl TE.h TI.h (by omega) (by rw [List.length_append, List.length_cons]; omega)) ?_ | refine qQ (Q_index_own rfl rfl .ownp rfl TE.h TI.h (by omega) (by rw [List.length_append, List.length_cons]; omega)) ?_ | refine qO (Q_call rfl ht7 vA) ?_ | refine qQ (Q_call rfl ht7 vA) ?_)
    refine VR_storeF (v := .s (txt ((U.mks a_1 (kk + 1)).2 + 1 + 1 + 1 + 1 + 1))) rfl rfl .ownp hpl rfl rfl TI.h (by repeat constructor) .ownp (by repeat constructor) ?_
    have hm8 := ih1 a_0 a_1 a_2_0 a_2_1 a_2_2 a_2_3 a_2_4_0 a_2_4_1 a_2_4_2 a_2_5 a_2_6 hmem ((U.mks a_1 (kk + 1)).2 + 1 + 1 + 1 + 1 + 1 + 1) (by omega) (by simp only [U.lf]; omega)
    change MSpec _ _ _ _ (.sl 3 (U.mks a_2_4_2 ((U.mks a_1 (kk + 1)).2 + 1 + 1 + 1 + 1 + 1 + 1)).1) (U.mks a_2_4_2 ((U.mks a_1 (kk + 1)).2 + 1 + 1 + 1 + 1 + 1 + 1)).2 at hm8
    have hs8 := mks_snd a_2_4_2 ((U.mks a_1 (kk + 1)).2 + 1 + 1 + 1 + 1 + 1 + 1)
    repeat (first | refine gGP ?_ | refine qO (Q_index_own rfl rfl .ownp rfl TE.h TI.h (by omega) (by rw [List.length_append, List.length_cons]; omega)) ?_ | refine qQ (Q_index_own rfl rfl .ownp rfl TE.h TI.h (by omega) (by rw [List.length_append, List.length_cons]; omega)) ?_)
    refine VR_markcall hm8 rfl rfl .ownp hpl TI.h (by repeat constructor) rfl rfl (by simp) .ownp (by repeat constructor) rfl rfl rfl (by decide) ?_
    have hm9 := ih2 a_0 a_1 a_2_0 a_2_1 a_2_2 a_2_3 a_2_4_0 a_2_4_1 a_2_4_2 a_2_5 a_2_6 hmem ((U.mks a_2_4_2 ((U.mks a_1 (kk + 1)).2 + 1 + 1 + 1 + 1 + 1 + 1)).2) (by omega) (by simp only [U.lf]; omega)
    change MSpec _ _ _ _ (.sl 9 (U.mks a_2_5 ((U.mks a_2_4_2 ((U.mks a_1 (kk + 1)).2 + 1 + 1 + 1 + 1 + 1 + 1)).2)).1) (U.mks a_2_5 ((U.mks a_2_4_2 ((U.mks a_1 (kk + 1)).2 + 1 + 1 + 1 + 1 + 1 + 1)).2)).2 at hm9
    have hs9 := mks_snd a_2_5 ((U.mks a_2_4_2 ((U.mks a_1 (kk + 1)).2 + 1 + 1 + 1 + 1 + 1 + 1)).2)
    repeat (first | refine gGP ?_ | refine qO (Q_index_own rfl rfl .ownp rfl TE.h TI.h (by omega) (by rw [List.length_append, List.length_cons]; omega)) ?_ | refine qQ (Q_index_own rfl rfl .ownp rfl TE.h TI.h (by omega) (by rw [List.length_append, List.length_cons]; omega)) ?_)
    refine VR_markcall hm9 rfl rfl .ownp hpl TI.h (by repeat constructor) rfl rfl (by simp) .ownp (by repeat constructor) rfl rfl rfl (by decide) ?_
    have hm10 := ih3 a_0 a_1 a_2_0 a_2_1 a_2_2 a_2_3 a_2_4_0 a_2_4_1 a_2_4_2 a_2_5 a_2_6 hmem ((U.mks a_2_5 ((U.mks a_2_4_2 ((U.mks a_1 (kk + 1)).2 + 1 + 1 + 1 + 1 + 1 + 1)).2)).2) (by omega) (by simp only [U.lf]; omega)
    change MSpec _ _ _ _ (.sl 11 (U.mks a_2_6 ((U.mks a_2_5 ((U.mks a_2_4_2 ((U.mks a_1 (kk + 1)).2 + 1 + 1 + 1 + 1 + 1 + 1)).2)).2)).1) (U.mks a_2_6 ((U.mks a_2_5 ((U.mks a_2_4_2 ((U.mks a_1 (kk + 1)).2 + 1 + 1 + 1 + 1 + 1 + 1)).2)).2)).2 at hm10
    have hs10 := mks_snd a_2_6 ((U.mks a_2_5 ((U.mks a_2_4_2 ((U.mks a_1 (kk + 1)).2 + 1 + 1 + 1 + 1 + 1 + 1)).2)).2)
    repeat (first | refine gGP ?_ | refine qO (Q_index_own rfl rfl .ownp rfl TE.h TI.h (by omega) (by rw [List.length_append, List.length_cons]; omega)) ?_ | refine qQ (Q_index_own rfl rfl .ownp rfl TE.h TI.h (by omega) (by rw [List.length_append, List.length_cons]; omega)) ?_)
    refine VR_markcall hm10 rfl rfl .ownp hpl TI.h (by repeat constructor) rfl rfl (by simp) .ownp (by repeat constructor) rfl rfl rfl (by decide) ?_
    refine gGO ?_
    refine ⟨i + 1, by omega, by omega, ⟨rfl, ⟨⟨rfl, rfl⟩, ⟨?_, rfl⟩, ⟨rfl, rfl⟩, trivial⟩, ⟨[], ?_⟩, rfl⟩⟩
    · rw [hn2]; rfl
    · rw [hn1, hpost, List.append_assoc]; rfl
  · refine V_exit ?_
    simp only [decide_eq_false_iff_not] at hc2
    rw [hlen] at hc2
    have hkl : i = us.length := by omega
    subst hkl
    show V _ _ _ _ _
    refine gGO ?_
    refine V_ret ?_
    refine ⟨trivial, ?_, [], ?_⟩
    · show SV.d (.i .i64 (U.mks (us.take us.length) k0).2) = _
      rw [List.take_length]
    · simp only [List.take_length, List.drop_length, List.append_nil]
set_option maxRecDepth 8000 in
set_option maxHeartbeats 8000000 in
theorem markExprS_step {us : List U} (hl : us.length ≤ big) (hz : ∀ a ∈ us, wt (.st 4) a) (ih0 : ∀ (a_0 : Int) (a_1 : List UInt8) (a_2 : List UInt8) (a_3 : Int) (a_4_0 : Int) (a_4_1 : List UInt8) (a_4_2 : List U) (a_5 : List U) (a_6 : List U), .st [.i .i64 a_0, .s a_1, .s a_2, .i .i64 a_3, .st [.i .i64 a_4_0, .s a_4_1, .sl 3 a_4_2], .sl 9 a_5, .sl 11 a_6] ∈ us → PMk 61 (.sl 3 a_4_2)) (ih1 : ∀ (a_0 : Int) (a_1 : List UInt8) (a_2 : List UInt8) (a_3 : Int) (a_4_0 : Int) (a_4_1 : List UInt8) (a_4_2 : List U) (a_5 : List U) (a_6 : List U), .st [.i .i64 a_0, .s a_1, .s a_2, .i .i64 a_3, .st [.i .i64 a_4_0, .s a_4_1, .sl 3 a_4_2], .sl 9 a_5, .sl 11 a_6] ∈ us → PMk 129 (.sl 9 a_5)) (ih2 : ∀ (a_0 : Int) (a_1 : List UInt8) (a_2 : List UInt8) (a_3 : Int) (a_4_0 : Int) (a_4_1 : List UInt8) (a_4_2 : List U) (a_5 : List U) (a_6 : List U), .st [.i .i64 a_0, .s a_1, .s a_2, .i .i64 a_3, .st [.i .i64 a_4_0, .s a_4_1, .sl 3 a_4_2], .sl 9 a_5, .sl 11 a_6] ∈ us → PMk 130 (.sl 11 a_6)) : PMk 129 (.sl 9 us) := by
  intro k0 hk0 hk1
  have hlf : (U.sl 9 us).lf = U.lfs us := rfl
  rw [hlf] at hk1
  rw [big_eq] at hl
  show MSpec _ _ _ _ (.sl 9 (U.mks us k0).1) (U.mks us k0).2
  refine MSpec_intro (fun hv e => [.ownp (hv 0) (e 0) 9 us]) (fun hv e => [.ownp (hv 0) (e 0) 9 (U.mks us k0).1]) Tryz.func129 rfl (by kernel_rfl) rfl rfl (fun _ _ => .sl) (fun _ _ => .sl) rfl rfl fun A hv e _ => ?_
  refine gGO ?_
  refine V_block ?_
  refine V_loop (α := Nat)
    (fun i => ⟨[(0, .sl 0 0), (1, .d (.i .i64 (U.mks (us.take i) k0).2)), (5, .d (.i .i64 i))], [.ownp (hv 0) (e 0) 9 ((U.mks (us.take i) k0).1 ++ us.drop i)], Tryz.f129.ntmps⟩)
    (fun i => i ≤ us.length)
    (fun i => us.length - i) 0 ⟨rfl, ⟨⟨rfl, rfl⟩, ⟨rfl, rfl⟩, ⟨rfl, rfl⟩, trivial⟩, ⟨[], rfl⟩, rfl⟩ (by simp) ?_
  intro i hi
  have hlen : ((U.mks (us.take i) k0).1 ++ us.drop i).length = us.length := by simp [mks_len]; omega
  refine gGO ?_
  (first | refine V_cond rfl (fun hc2 => ?_) (fun hc2 => ?_) | refine V_seq (V_cond rfl (fun hc2 => ?_) (fun hc2 => ?_)))
  · refine V_skip ?_
    simp only [decide_eq_true_eq] at hc2
    rw [hlen] at hc2
    have hil : i < us.length := by omega
    obtain ⟨a, hget⟩ : ∃ a, us[i]? = some a := ⟨_, List.getElem?_eq_getElem hil⟩
    have hmem := List.mem_of_getElem? hget
    have hdrop := drop_get hget
    obtain ⟨hn1, hn2⟩ := mks_next hget k0
    have hmid := lfs_mid hget
    have hsnd := mks_snd (us.take i) k0
    have hpl : (U.mks (us.take i) k0).1.length = i := by simp [mks_len]; omega
    have hwa := hz a hmem
    obtain ⟨a_0, a_1, a_2, a_3, a_4, a_5, a_6, rfl, hwa_0, hwa_1, hwa_2, hwa_3, hwa_4, hwa_5, hwa_6⟩ := inv_Expr hwa
    obtain ⟨a_4_0, a_4_1, a_4_2, rfl, hwa_4_0, hwa_4_1, hwa_4_2⟩ := inv_Type hwa_4
    have hlfa : ((.st [.i .i64 a_0, .s a_1, .s a_2, .i .i64 a_3, .st [.i .i64 a_4_0, .s a_4_1, .sl 3 a_4_2], .sl 9 a_5, .sl 11 a_6]) : U).lf = 0 + 1 + 1 + 1 + 1 + 1 + 1 + U.lfs a_4_2 + U.lfs a_5 + U.lfs a_6 := by simp [U.lf, U.lfs] <;> omega
    rw [hlfa] at hmid
    refine V_cast [.ownp (hv 0) (e 0) 9 ((U.mks (us.take i) k0).1 ++ (.st [.i .i64 a_0, .s a_1, .s a_2, .i .i64 a_3, .st [.i .i64 a_4_0, .s a_4_1, .sl 3 a_4_2], .sl 9 a_5, .sl 11 a_6]) :: us.drop (i + 1))] (by rw [hdrop]) ?_
    have hkp : 0 < (U.mks (us.take i) k0).2 := by omega
    have hkb : (U.mks (us.take i) k0).2 + (0 + 1 + 1 + 1 + 1 + 1 + 1 + U.lfs a_4_2 + U.lfs a_5 + U.lfs a_6 : Nat) ≤ 4611686018427387904 := by omega
    have hlen' : ((U.mks (us.take i) k0).1 ++ (.st [.i .i64 a_0, .s a_1, .s a_2, .i .i64 a_3, .st [.i .i64 a_4_0, .s a_4_1, .sl 3 a_4_2], .sl 9 a_5, .sl 11 a_6]) :: us.drop (i + 1)).length = us.length := by rw [← hdrop]; exact hlen
    clear hdrop hsnd hlfa hmid hlen
    generalize (U.mks (us.take i) k0).1 = pre at hn1 hpl hlen' ⊢
    generalize (U.mks (us.take i) k0).2 = kk at hn1 hn2 hkp hkb ⊢
    generalize hpost : us.drop (i + 1) = post at hlen' ⊢
    rw [List.length_append, List.length_cons] at hlen'
    refine V_seq (V_block ?_)
    repeat (first | refine gGP ?_ | refine qO (Q_index_own rfl rfl .ownp rfl TE.h TI.h (by omega) (by rw [List.length_append, List.length_cons]; omega)) ?_ | refine qQ (Q_index_own rfl rfl .ownp rfl TE.h TI.h (by omega) (by rw [List.length_append, List.length_cons]; omega)) ?_)
    refine VR_storeF (v := .i .i64 (kk)) rfl rfl .ownp hpl rfl rfl TI.h (by repeat constructor) .ownp (by repeat constructor) ?_
    have ht1 := markText_all (kk + 1) (by omega) (by omega)
    repeat (first | refine gGP ?_ | refine qO (Q_index_own rfl rfl .ownp rfl TE.h TI.h (by omega) (by rw [List.length_append, List.length_cons]; omega)) ?_ | refine qQ (Q_index_own rfl rfl .ownp rfl TE.h TI.h (by omega) (by rw [List.length_append, List.length_cons]; omega)) ?_ | refine qO (Q_call rfl ht1 vA) ?_ | refine qQ (Q_call rfl ht1 vA) ?_)
    refine VR_storeF (v := .s (txt (kk + 1))) rfl rfl .ownp hpl rfl rfl TI.h (by repeat constructor) .ownp (by repeat constructor) ?_
    have ht2 := markText_all (kk + 1 + 1) (by omega) (by omega)
    repeat (first | refine gGP ?_ | refine qO (Q_index_own rfl rfl .ownp rfl TE.h TI.h (by omega) (by rw [List.length_append, List.length_cons]; omega)) ?_ | refine qQ (Q_index_own rfl rfl .ownp rfl TE.h TI.h (by omega) (by rw [List.length_append, List.length_cons]; omega)) ?_ | refine qO (Q_call rfl ht2 vA) ?_ | refine qQ (Q_call rfl ht2 vA) ?_)
    refine VR_storeF (v := .s (txt (kk + 1 + 1))) rfl rfl .ownp hpl rfl rfl TI.h (by repeat constructor) .ownp (by repeat constructor) ?_
    repeat (first | refine gGP ?_ | refine qO (Q_index_own rfl rfl .ownp rfl TE.h TI.h (by omega) (by rw [List.length_append, List.length_cons]; omega)) ?_ | refine qQ (Q_index_own rfl rfl .ownp rfl TE.h TI.h (by omega) (by rw [List.length_append, List.length_cons]; omega)) ?_)
    refine VR_storeF (v := .i .i64 (kk + 1 + 1 + 1)) rfl rfl .ownp hpl rfl rfl TI.h (by repeat constructor) .ownp (by repeat constructor) ?_
    repeat (first | refine gGP ?_ | refine qO (Q_index_own rfl rfl .ownp rfl TE.h TI.h (by omega) (by rw [List.length_append, List.length_cons]; omega)) ?_ | refine qQ (Q_index_own rfl rfl .ownp rfl TE.h TI.h (by omega) (by rw [List.length_append, List.length_cons]; omega)) ?_)
    refine VR_storeF (v := .i .i64 (kk + 1 + 1 + 1 + 1)) rfl rfl .ownp hpl rfl rfl TI.h (by repeat constructor) .ownp (by repeat constructor) ?_
    have ht5 := markText_all (kk + 1 + 1 + 1 + 1 + 1) (by omega) (by omega)
    repeat (first | refine gGP ?_ | refine qO (Q_index_own rfl rfl .ownp rfl TE.h TI.h (by omega) (by rw [List.length_append, List.length_cons]; omega)) ?_ | refine qQ (Q_index_own rfl rfl .ownp rfl TE.h TI.h (by omega) (by rw [List.length_append, List.length_cons]; omega)) ?_ | refine qO (Q_call rfl ht5 vA) ?_ | refine qQ (Q_call rfl ht5 vA) ?_)
    refine VR_storeF (v := .s (txt (kk + 1 + 1 + 1 + 1 + 1))) rfl rfl .ownp hpl rfl rfl TI.h (by repeat constructor) .ownp (by repeat constructor) ?_
    have hm6 := ih0 a_0 a_1 a_2 a_3 a_4_0 a_4_1 a_4_2 a_5 a_6 hmem (kk + 1 + 1 + 1 + 1 + 1 + 1) (by omega) (by simp only [U.lf]; omega)
    change MSpec _ _ _ _ (.sl 3 (U.mks a_4_2 (kk + 1 + 1 + 1 + 1 + 1 + 1)).1) (U.mks a_4_2 (kk + 1 + 1 + 1 + 1 + 1 + 1)).2 at hm6
    have hs6 := mks_snd a_4_2 (kk + 1 + 1 + 1 + 1 + 1 + 1)
    repeat (first | refine gGP ?_ | refine qO (Q_index_own rfl rfl .ownp rfl TE.h TI.h (by omega) (by rw [List.length_append, List.length_cons]; omega)) ?_ | refine qQ (Q_index_own rfl rfl .ownp rfl TE.h TI.h (by omega) (by rw [List.length_append, List.length_cons]; omega)) ?_)
    refine VR_markcall hm6 rfl rfl .ownp hpl TI.h (by repeat constructor) rfl rfl (by simp) .ownp (by repeat constructor) rfl rfl rfl (by decide) ?_
    have hm7 := ih1 a_0 a_1 a_2 a_3 a_4_0 a_4_1 a_4_2 a_5 a_6 hmem ((U.mks a_4_2 (kk + 1 + 1 + 1 + 1 + 1 + 1)).2) (by omega) (by simp only [U.lf]; omega)
    change MSpec _ _ _ _ (.sl 9 (U.mks a_5 ((U.mks a_4_2 (kk + 1 + 1 + 1 + 1 + 1 + 1)).2)).1) (U.mks a_5 ((U.mks a_4_2 (kk + 1 + 1 + 1 + 1 + 1 + 1)).2)).2 at hm7
    have hs7 := mks_snd a_5 ((U.mks a_4_2 (kk + 1 + 1 + 1 + 1 + 1 + 1)).2)
    repeat (first | refine gGP ?_ | refine qO (Q_index_own rfl rfl .ownp rfl TE.h TI.h (by omega) (by rw [List.length_append, List.length_cons]; omega)) ?_ | refine qQ (Q_index_own rfl rfl .ownp rfl TE.h TI.h (by omega) (by rw [List.length_append, List.length_cons]; omega)) ?_)
    refine VR_markcall hm7 rfl rfl .ownp hpl TI.h (by repeat constructor) rfl rfl (by simp) .ownp (by repeat constructor) rfl rfl rfl (by decide) ?_
    have hm8 := ih2 a_0 a_1 a_2 a_3 a_4_0 a_4_1 a_4_2 a_5 a_6 hmem ((U.mks a_5 ((U.mks a_4_2 (kk + 1 + 1 + 1 + 1 + 1 + 1)).2)).2) (by omega) (by simp only [U.lf]; omega)
    change MSpec _ _ _ _ (.sl 11 (U.mks a_6 ((U.mks a_5 ((U.mks a_4_2 (kk + 1 + 1 + 1 + 1 + 1 + 1)).2)).2)).1) (U.mks a_6 ((U.mks a_5 ((U.mks a_4_2 (kk + 1 + 1 + 1 + 1 + 1 + 1)).2)).2)).2 at hm8
    have hs8 := mks_snd a_6 ((U.mks a_5 ((U.mks a_4_2 (kk + 1 + 1 + 1 + 1 + 1 + 1)).2)).2)
    repeat (first | refine gGP ?_ | refine qO (Q_index_own rfl rfl .ownp rfl TE.h TI.h (by omega) (by rw [List.length_append, List.length_cons]; omega)) ?_ | refine qQ (Q_index_own rfl rfl .ownp rfl TE.h TI.h (by omega) (by rw [List.length_append, List.length_cons]; omega)) ?_)
    refine VR_markcall hm8 rfl rfl .ownp hpl TI.h (by repeat constructor) rfl rfl (by simp) .ownp (by repeat constructor) rfl rfl rfl (by decide) ?_
    refine gGO ?_
    refine ⟨i + 1, by omega, by omega, ⟨rfl, ⟨⟨rfl, rfl⟩, ⟨?_, rfl⟩, ⟨rfl, rfl⟩, trivial⟩, ⟨[], ?_⟩, rfl⟩⟩
    · rw [hn2]; rfl
    · rw [hn1, hpost, List.append_assoc]; rfl
  · refine V_exit ?_
    simp only [decide_eq_false_iff_not] at hc2
    rw [hlen] at hc2
    have hkl : i = us.length := by omega
    subst hkl
    show V _ _ _ _ _
    refine gGO ?_
    refine V_ret ?_
    refine ⟨trivial, ?_, [], ?_⟩
    · show SV.d (.i .i64 (U.mks (us.take us.length) k0).2) = _
      rw [List.take_length]
    · simp only [List.take_length, List.drop_length, List.append_nil]
theorem markArmExpr_grp (u : U) : (∀ us, u = .sl 11 us → us.length ≤ big → (∀ x ∈ us, wt (.st 3) x) → PMk 130 u) ∧ (∀ us, u = .sl 9 us → us.length ≤ big → (∀ x ∈ us, wt (.st 4) x) → PMk 129 u) := by
  refine U.ind (M := fun u => (∀ us, u = .sl 11 us → us.length ≤ big → (∀ x ∈ us, wt (.st 3) x) → PMk 130 u) ∧ (∀ us, u = .sl 9 us → us.length ≤ big → (∀ x ∈ us, wt (.st 4) x) → PMk 129 u)) (fun u ih => ?_) u
  refine ⟨?_, ?_⟩
  · rintro us rfl hl hz
    exact markArmS_step hl hz (fun a_0 a_1 a_2_0 a_2_1 a_2_2 a_2_3 a_2_4_0 a_2_4_1 a_2_4_2 a_2_5 a_2_6 ha => by obtain ⟨_, _, _, hx_a, qa_0, qa_1, qa_2⟩ := inv_Arm (hz _ ha); cases hx_a; obtain ⟨_, _, _, _, _, _, _, hx_a_2, qa_2_0, qa_2_1, qa_2_2, qa_2_3, qa_2_4, qa_2_5, qa_2_6⟩ := inv_Expr qa_2; cases hx_a_2; obtain ⟨_, _, _, hx_a_2_4, qa_2_4_0, qa_2_4_1, qa_2_4_2⟩ := inv_Type qa_2_4; cases hx_a_2_4; exact markStringS_all qa_1) (fun a_0 a_1 a_2_0 a_2_1 a_2_2 a_2_3 a_2_4_0 a_2_4_1 a_2_4_2 a_2_5 a_2_6 ha => by obtain ⟨_, _, _, hx_a, qa_0, qa_1, qa_2⟩ := inv_Arm (hz _ ha); cases hx_a; obtain ⟨_, _, _, _, _, _, _, hx_a_2, qa_2_0, qa_2_1, qa_2_2, qa_2_3, qa_2_4, qa_2_5, qa_2_6⟩ := inv_Expr qa_2; cases hx_a_2; obtain ⟨_, _, _, hx_a_2_4, qa_2_4_0, qa_2_4_1, qa_2_4_2⟩ := inv_Type qa_2_4; cases hx_a_2_4; exact markTypeS_all qa_2_4_2) (fun a_0 a_1 a_2_0 a_2_1 a_2_2 a_2_3 a_2_4_0 a_2_4_1 a_2_4_2 a_2_5 a_2_6 ha => by obtain ⟨_, _, _, hx_a, qa_0, qa_1, qa_2⟩ := inv_Arm (hz _ ha); cases hx_a; obtain ⟨_, _, _, _, _, _, _, hx_a_2, qa_2_0, qa_2_1, qa_2_2, qa_2_3, qa_2_4, qa_2_5, qa_2_6⟩ := inv_Expr qa_2; cases hx_a_2; obtain ⟨_, _, _, hx_a_2_4, qa_2_4_0, qa_2_4_1, qa_2_4_2⟩ := inv_Type qa_2_4; cases hx_a_2_4; exact (ih (.sl 9 a_2_5) (by have := nn_of_mem ha; simp only [U.nn, U.nns] at this ⊢; omega)).2 a_2_5 rfl qa_2_5.1 qa_2_5.2) (fun a_0 a_1 a_2_0 a_2_1 a_2_2 a_2_3 a_2_4_0 a_2_4_1 a_2_4_2 a_2_5 a_2_6 ha => by obtain ⟨_, _, _, hx_a, qa_0, qa_1, qa_2⟩ := inv_Arm (hz _ ha); cases hx_a; obtain ⟨_, _, _, _, _, _, _, hx_a_2, qa_2_0, qa_2_1, qa_2_2, qa_2_3, qa_2_4, qa_2_5, qa_2_6⟩ := inv_Expr qa_2; cases hx_a_2; obtain ⟨_, _, _, hx_a_2_4, qa_2_4_0, qa_2_4_1, qa_2_4_2⟩ := inv_Type qa_2_4; cases hx_a_2_4; exact (ih (.sl 11 a_2_6) (by have := nn_of_mem ha; simp only [U.nn, U.nns] at this ⊢; omega)).1 a_2_6 rfl qa_2_6.1 qa_2_6.2)
  · rintro us rfl hl hz
    exact markExprS_step hl hz (fun a_0 a_1 a_2 a_3 a_4_0 a_4_1 a_4_2 a_5 a_6 ha => by obtain ⟨_, _, _, _, _, _, _, hx_a, qa_0, qa_1, qa_2, qa_3, qa_4, qa_5, qa_6⟩ := inv_Expr (hz _ ha); cases hx_a; obtain ⟨_, _, _, hx_a_4, qa_4_0, qa_4_1, qa_4_2⟩ := inv_Type qa_4; cases hx_a_4; exact markTypeS_all qa_4_2) (fun a_0 a_1 a_2 a_3 a_4_0 a_4_1 a_4_2 a_5 a_6 ha => by obtain ⟨_, _, _, _, _, _, _, hx_a, qa_0, qa_1, qa_2, qa_3, qa_4, qa_5, qa_6⟩ := inv_Expr (hz _ ha); cases hx_a; obtain ⟨_, _, _, hx_a_4, qa_4_0, qa_4_1, qa_4_2⟩ := inv_Type qa_4; cases hx_a_4; exact (ih (.sl 9 a_5) (by have := nn_of_mem ha; simp only [U.nn, U.nns] at this ⊢; omega)).2 a_5 rfl qa_5.1 qa_5.2) (fun a_0 a_1 a_2 a_3 a_4_0 a_4_1 a_4_2 a_5 a_6 ha => by obtain ⟨_, _, _, _, _, _, _, hx_a, qa_0, qa_1, qa_2, qa_3, qa_4, qa_5, qa_6⟩ := inv_Expr (hz _ ha); cases hx_a; obtain ⟨_, _, _, hx_a_4, qa_4_0, qa_4_1, qa_4_2⟩ := inv_Type qa_4; cases hx_a_4; exact (ih (.sl 11 a_6) (by have := nn_of_mem ha; simp only [U.nn, U.nns] at this ⊢; omega)).1 a_6 rfl qa_6.1 qa_6.2)
theorem markArmS_all {us : List U} (h : us.length ≤ big ∧ ∀ x ∈ us, wt (.st 3) x) : PMk 130 (.sl 11 us) := (markArmExpr_grp (.sl 11 us)).1 us rfl h.1 h.2
theorem markExprS_all {us : List U} (h : us.length ≤ big ∧ ∀ x ∈ us, wt (.st 4) x) : PMk 129 (.sl 9 us) := (markArmExpr_grp (.sl 9 us)).2 us rfl h.1 h.2
set_option maxRecDepth 8000 in
set_option maxHeartbeats 8000000 in
theorem markSignatureS_step {us : List U} (hl : us.length ≤ big) (hz : ∀ a ∈ us, wt (.st 5) a) (ih0 : ∀ (a_0 : List UInt8) (a_1 : List U) (a_2_0 : Int) (a_2_1 : List UInt8) (a_2_2 : List U) (a_3 : Bool) (a_4 : List U) (a_5_0 : Int) (a_5_1 : List UInt8) (a_5_2 : List UInt8) (a_5_3 : Int) (a_5_4_0 : Int) (a_5_4_1 : List UInt8) (a_5_4_2 : List U) (a_5_5 : List U) (a_5_6 : List U), .st [.s a_0, .sl 3 a_1, .st [.i .i64 a_2_0, .s a_2_1, .sl 3 a_2_2], .b a_3, .sl 1 a_4, .st [.i .i64 a_5_0, .s a_5_1, .s a_5_2, .i .i64 a_5_3, .st [.i .i64 a_5_4_0, .s a_5_4_1, .sl 3 a_5_4_2], .sl 9 a_5_5, .sl 11 a_5_6]] ∈ us → PMk 61 (.sl 3 a_1)) (ih1 : ∀ (a_0 : List UInt8) (a_1 : List U) (a_2_0 : Int) (a_2_1 : List UInt8) (a_2_2 : List U) (a_3 : Bool) (a_4 : List U) (a_5_0 : Int) (a_5_1 : List UInt8) (a_5_2 : List UInt8) (a_5_3 : Int) (a_5_4_0 : Int) (a_5_4_1 : List UInt8) (a_5_4_2 : List U) (a_5_5 : List U) (a_5_6 : List U), .st [.s a_0, .sl 3 a_1, .st [.i .i64 a_2_0, .s a_2_1, .sl 3 a_2_2], .b a_3, .sl 1 a_4, .st [.i .i64 a_5_0, .s a_5_1, .s a_5_2, .i .i64 a_5_3, .st [.i .i64 a_5_4_0, .s a_5_4_1, .sl 3 a_5_4_2], .sl 9 a_5_5, .sl 11 a_5_6]] ∈ us → PMk 61 (.sl 3 a_2_2)) (ih2 : ∀ (a_0 : List UInt8) (a_1 : List U) (a_2_0 : Int) (a_2_1 : List UInt8) (a_2_2 : List U) (a_3 : Bool) (a_4 : List U) (a_5_0 : Int) (a_5_1 : List UInt8) (a_5_2 : List UInt8) (a_5_3 : Int) (a_5_4_0 : Int) (a_5_4_1 : List UInt8) (a_5_4_2 : List U) (a_5_5 : List U) (a_5_6 : List U), .st [.s a_0, .sl 3 a_1, .st [.i .i64 a_2_0, .s a_2_1, .sl 3 a_2_2], .b a_3, .sl 1 a_4, .st [.i .i64 a_5_0, .s a_5_1, .s a_5_2, .i .i64 a_5_3, .st [.i .i64 a_5_4_0, .s a_5_4_1, .sl 3 a_5_4_2], .sl 9 a_5_5, .sl 11 a_5_6]] ∈ us → PMk 57 (.sl 1 a_4)) (ih3 : ∀ (a_0 : List UInt8) (a_1 : List U) (a_2_0 : Int) (a_2_1 : List UInt8) (a_2_2 : List U) (a_3 : Bool) (a_4 : List U) (a_5_0 : Int) (a_5_1 : List UInt8) (a_5_2 : List UInt8) (a_5_3 : Int) (a_5_4_0 : Int) (a_5_4_1 : List UInt8) (a_5_4_2 : List U) (a_5_5 : List U) (a_5_6 : List U), .st [.s a_0, .sl 3 a_1, .st [.i .i64 a_2_0, .s a_2_1, .sl 3 a_2_2], .b a_3, .sl 1 a_4, .st [.i .i64 a_5_0, .s a_5_1, .s a_5_2, .i .i64 a_5_3, .st [.i .i64 a_5_4_0, .s a_5_4_1, .sl 3 a_5_4_2], .sl 9 a_5_5, .sl 11 a_5_6]] ∈ us → PMk 61 (.sl 3 a_5_4_2)) (ih4 : ∀ (a_0 : List UInt8) (a_1 : List U) (a_2_0 : Int) (a_2_1 : List UInt8) (a_2_2 : List U) (a_3 : Bool) (a_4 : List U) (a_5_0 : Int) (a_5_1 : List UInt8) (a_5_2 : List UInt8) (a_5_3 : Int) (a_5_4_0 : Int) (a_5_4_1 : List UInt8) (a_5_4_2 : List U) (a_5_5 : List U) (a_5_6 : List U), .st [.s a_0, .sl 3 a_1, .st [.i .i64 a_2_0, .s a_2_1, .sl 3 a_2_2], .b a_3, .sl 1 a_4, .st [.i .i64 a_5_0, .s a_5_1, .s a_5_2, .i .i64 a_5_3, .st [.i .i64 a_5_4_0, .s a_5_4_1, .sl 3 a_5_4_2], .sl 9 a_5_5, .sl 11 a_5_6]] ∈ us → PMk 129 (.sl 9 a_5_5)) (ih5 : ∀ (a_0 : List UInt8) (a_1 : List U) (a_2_0 : Int) (a_2_1 : List UInt8) (a_2_2 : List U) (a_3 : Bool) (a_4 : List U) (a_5_0 : Int) (a_5_1 : List UInt8) (a_5_2 : List UInt8) (a_5_3 : Int) (a_5_4_0 : Int) (a_5_4_1 : List UInt8) (a_5_4_2 : List U) (a_5_5 : List U) (a_5_6 : List U), .st [.s a_0, .sl 3 a_1, .st [.i .i64 a_2_0, .s a_2_1, .sl 3 a_2_2], .b a_3, .sl 1 a_4, .st [.i .i64 a_5_0, .s a_5_1, .s a_5_2, .i .i64 a_5_3, .st [.i .i64 a_5_4_0, .s a_5_4_1, .sl 3 a_5_4_2], .sl 9 a_5_5, .sl 11 a_5_6]] ∈ us → PMk 130 (.sl 11 a_5_6)) : PMk 126 (.sl 16 us) := by
  intro k0 hk0 hk1
  have hlf : (U.sl 16 us).lf = U.lfs us := rfl
  rw [hlf] at hk1
  rw [big_eq] at hl
  show MSpec _ _ _ _ (.sl 16 (U.mks us k0).1) (U.mks us k0).2
  refine MSpec_intro (fun hv e => [.ownp (hv 0) (e 0) 16 us]) (fun hv e => [.ownp (hv 0) (e 0) 16 (U.mks us k0).1]) Tryz.func126 rfl (by kernel_rfl) rfl rfl (fun _ _ => .sl) (fun _ _ => .sl) rfl rfl fun A hv e _ => ?_
  refine gGO ?_
  refine V_block ?_
  refine V_loop (α := Nat)
    (fun i => ⟨[(0, .sl 0 0), (1, .d (.i .i64 (U.mks (us.take i) k0).2)), (5, .d (.i .i64 i))], [.ownp (hv 0) (e 0) 16 ((U.mks (us.take i) k0).1 ++ us.drop i)], Tryz.f126.ntmps⟩)
    (fun i => i ≤ us.length)
    (fun i => us.length - i) 0 ⟨rfl, ⟨⟨rfl, rfl⟩, ⟨rfl, rfl⟩, ⟨rfl, rfl⟩, trivial⟩, ⟨[], rfl⟩, rfl⟩ (by simp) ?_
  intro i hi
  have hlen : ((U.mks (us.take i) k0).1 ++ us.drop i).length = us.length := by simp [mks_len]; omega
  refine gGO ?_
  (first | refine V_cond rfl (fun hc2 => ?_) (fun hc2 => ?_) | refine V_seq (V_cond rfl (fun hc2 => ?_) (fun hc2 => ?_)))
  · refine V_skip ?_
    simp only [decide_eq_true_eq] at hc2
    rw [hlen] at hc2
    have hil : i < us.length := by omega
    obtain ⟨a, hget⟩ : ∃ a, us[i]? = some a := ⟨_, List.getElem?_eq_getElem hil⟩
    have hmem := List.mem_of_getElem? hget
    have hdrop := drop_get hget
    obtain ⟨hn1, hn2⟩ := mks_next hget k0
    have hmid := lfs_mid hget
    have hsnd := mks_snd (us.take i) k0
    have hpl : (U.mks (us.take i) k0).1.length = i := by simp [mks_len]; omega
    have hwa := hz a hmem
    obtain ⟨a_0, a_1, a_2, a_3, a_4, a_5, rfl, hwa_0, hwa_1, hwa_2, hwa_4, hwa_5⟩ := inv_Signature hwa
    obtain ⟨a_2_0, a_2_1, a_2_2, rfl, hwa_2_0, hwa_2_1, hwa_2_2⟩ := inv_Type hwa_2
    obtain ⟨a_5_0, a_5_1, a_5_2, a_5_3, a_5_4, a_5_5, a_5_6, rfl, hwa_5_0, hwa_5_1, hwa_5_2, hwa_5_3, hwa_5_4, hwa_5_5, hwa_5_6⟩ := inv_Expr hwa_5
    obtain ⟨a_5_4_0, a_5_4_1, a_5_4_2, rfl, hwa_5_4_0, hwa_5_4_1, hwa_5_4_2⟩ := inv_Type hwa_5_4
    have hlfa : ((.st [.s a_0, .sl 3 a_1, .st [.i .i64 a_2_0, .s a_2_1, .sl 3 a_2_2], .b a_3, .sl 1 a_4, .st [.i .i64 a_5_0, .s a_5_1, .s a_5_2, .i .i64 a_5_3, .st [.i .i64 a_5_4_0, .s a_5_4_1, .sl 3 a_5_4_2], .sl 9 a_5_5, .sl 11 a_5_6]]) : U).lf = 0 + 1 + U.lfs a_1 + 1 + 1 + U.lfs a_2_2 + 1 + U.lfs a_4 + 1 + 1 + 1 + 1 + 1 + 1 + U.lfs a_5_4_2 + U.lfs a_5_5 + U.lfs a_5_6 := by simp [U.lf, U.lfs] <;> omega
    rw [hlfa] at hmid
    refine V_cast [.ownp (hv 0) (e 0) 16 ((U.mks (us.take i) k0).1 ++ (.st [.s a_0, .sl 3 a_1, .st [.i .i64 a_2_0, .s a_2_1, .sl 3 a_2_2], .b a_3, .sl 1 a_4, .st [.i .i64 a_5_0, .s a_5_1, .s a_5_2, .i .i64 a_5_3, .st [.i .i64 a_5_4_0, .s a_5_4_1, .sl 3 a_5_4_2], .sl 9 a_5_5, .sl 11 a_5_6]]) :: us.drop (i + 1))] (by rw [hdrop]) ?_
    have hkp : 0 < (U.mks (us.take i) k0).2 := by omega
    have hkb : (U.mks (us.take i) k0).2 + (0 + 1 + U.lfs a_1 + 1 + 1 + U.lfs a_2_2 + 1 + U.lfs a_4 + 1 + 1 + 1 + 1 + 1 + 1 + U.lfs a_5_4_2 + U.lfs a_5_5 + U.lfs a_5_6 : Nat) ≤ 4611686018427387904 := by omega
    have hlen' : ((U.mks (us.take i) k0).1 ++ (.st [.s a_0, .sl 3 a_1, .st [.i .i64 a_2_0, .s a_2_1, .sl 3 a_2_2], .b a_3, .sl 1 a_4, .st [.i .i64 a_5_0, .s a_5_1, .s a_5_2, .i .i64 a_5_3, .st [.i .i64 a_5_4_0, .s a_5_4_1, .sl 3 a_5_4_2], .sl 9 a_5_5, .sl 11 a_5_6]]) :: us.drop (i + 1)).length = us.length := by rw [← hdrop]; exact hlen
    clear hdrop hsnd hlfa hmid hlen
    generalize (U.mks (us.take i) k0).1 = pre at hn1 hpl hlen' ⊢
    generalize (U.mks (us.take i) k0).2 = kk at hn1 hn2 hkp hkb ⊢
    generalize hpost : us.drop (i + 1) = post at hlen' ⊢
    rw [List.length_append, List.length_cons] at hlen'
    refine V_seq (V_block ?_)
    have ht0 := markText_all (kk) (by omega) (by omega)
    repeat (first | refine gGP ?_ | refine qO (Q_index_own rfl rfl .ownp rfl TE.h TI.h (by omega) (by rw [List.length_append, List.length_cons]; omega)) ?_ | refine qQ (Q_index_own rfl rfl .ownp rfl TE.h TI.h (by omega) (by rw [List.length_append, List.length_cons]; omega)) ?_ | refine qO (Q_call rfl ht0 vA) ?_ | refine qQ (Q_call rfl ht0 vA) ?_)
    refine VR_storeF (v := .s (txt (kk))) rfl rfl .ownp hpl rfl rfl TI.h (by repeat constructor) .ownp (by repeat constructor) ?_
    have hm1 := ih0 a_0 a_1 a_2_0 a_2_1 a_2_2 a_3 a_4 a_5_0 a_5_1 a_5_2 a_5_3 a_5_4_0 a_5_4_1 a_5_4_2 a_5_5 a_5_6 hmem (kk + 1) (by omega) (by simp only [U.lf]; omega)
    change MSpec _ _ _ _ (.sl 3 (U.mks a_1 (kk + 1)).1) (U.mks a_1 (kk + 1)).2 at hm1
    have hs1 := mks_snd a_1 (kk + 1)
    repeat (first | refine gGP ?_ | refine qO (Q_index_own rfl rfl .ownp rfl TE.h TI.h (by omega) (by rw [List.length_append, List.length_cons]; omega)) ?_ | refine qQ (Q_index_own rfl rfl .ownp rfl TE.h TI.h (by omega) (by rw [List.length_append, List.length_cons]; omega)) ?_)
    refine VR_markcall hm1 rfl rfl .ownp hpl TI.h (by repeat constructor) rfl rfl (by simp) .ownp (by repeat constructor) rfl rfl rfl (by decide) ?_
    repeat (first | refine gGP ?_ | refine qO (Q_index_own rfl rfl .ownp rfl TE.h TI.h (by omega) (by rw [List.length_append, List.length_cons]; omega)) ?_ | refine qQ (Q_index_own rfl rfl .ownp rfl TE.h TI.h (by omega) (by rw [List.length_append, List.length_cons]; omega)) ?_)
    refine VR_storeF (v := .i .i64 ((U.mks a_1 (kk + 1)).2)) rfl rfl .ownp hpl rfl rfl TI.h (by repeat constructor) .ownp (by repeat constructor) ?_
    have ht3 := markText_all ((U.mks a_1 (kk + 1)).2 + 1) (by omega) (by omega)
    repeat (first | refine gGP ?_ | refine qO (Q_index_own rfl rfl .ownp rfl TE.h TI.h (by omega) (by rw [List.length_append, List.length_cons]; omega)) ?_ | refine qQ (Q_index_own rfl rfl .ownp rfl TE.h TI.h (by omega) (by rw [List.length_append, List.length_cons]; omega)) ?_ | refine qO (Q_call rfl ht3 vA) ?_ | refine qQ (Q_call rfl ht3 vA) ?_)
    refine VR_storeF (v := .s (txt ((U.mks a_1 (kk + 1)).2 + 1))) rfl rfl .ownp hpl rfl rfl TI.h (by repeat constructor) .ownp (by repeat constructor) ?_
    have hm4 := ih1 a_0 a_1 a_2_0 a_2_1 a_2_2 a_3 a_4 a_5_0 a_5_1 a_5_2 a_5_3 a_5_4_0 a_5_4_1 a_5_4_2 a_5_5 a_5_6 hmem ((U.mks a_1 (kk + 1)).2 + 1 + 1) (by omega) (by simp only [U.lf]; omega)
    change MSpec _ _ _ _ (.sl 3 (U.mks a_2_2 ((U.mks a_1 (kk + 1)).2 + 1 + 1)).1) (U.mks a_2_2 ((U.mks a_1 (kk + 1)).2 + 1 + 1)).2 at hm4
    have hs4 := mks_snd a_2_2 ((U.mks a_1 (kk + 1)).2 + 1 + 1)
    repeat (first | refine gGP ?_ | refine qO (Q_index_own rfl rfl .ownp rfl TE.h TI.h (by omega) (by rw [List.length_append, List.length_cons]; omega)) ?_ | refine qQ (Q_index_own rfl rfl .ownp rfl TE.h TI.h (by omega) (by rw [List.length_append, List.length_cons]; omega)) ?_)
    refine VR_markcall hm4 rfl rfl .ownp hpl TI.h (by repeat constructor) rfl rfl (by simp) .ownp (by repeat constructor) rfl rfl rfl (by decide) ?_
    repeat (first | refine gGP ?_ | refine qO (Q_index_own rfl rfl .ownp rfl TE.h TI.h (by omega) (by rw [List.length_append, List.length_cons]; omega)) ?_ | refine qQ (Q_index_own rfl rfl .ownp rfl TE.h TI.h (by omega) (by rw [List.length_append, List.length_cons]; omega)) ?_ | refine qO (Q_remI (m := (U.mks a_2_2 ((U.mks a_1 (kk + 1)).2 + 1 + 1)).2) (by omega)) ?_ | refine qQ (Q_remI (m := (U.mks a_2_2 ((U.mks a_1 (kk + 1)).2 + 1 + 1)).2) (by omega)) ?_)
    refine VR_storeF (v := .b (((U.mks a_2_2 ((U.mks a_1 (kk + 1)).2 + 1 + 1)).2) % 3 == 0)) rfl rfl .ownp hpl rfl rfl TI.h (by repeat constructor) .ownp (by repeat constructor) ?_
    have hm6 := ih2 a_0 a_1 a_2_0 a_2_1 a_2_2 a_3 a_4 a_5_0 a_5_1 a_5_2 a_5_3 a_5_4_0 a_5_4_1 a_5_4_2 a_5_5 a_5_6 hmem ((U.mks a_2_2 ((U.mks a_1 (kk + 1)).2 + 1 + 1)).2 + 1) (by omega) (by simp only [U.lf]; omega)
    change MSpec _ _ _ _ (.sl 1 (U.mks a_4 ((U.mks a_2_2 ((U.mks a_1 (kk + 1)).2 + 1 + 1)).2 + 1)).1) (U.mks a_4 ((U.mks a_2_2 ((U.mks a_1 (kk + 1)).2 + 1 + 1)).2 + 1)).2 at hm6
    have hs6 := mks_snd a_4 ((U.mks a_2_2 ((U.mks a_1 (kk + 1)).2 + 1 + 1)).2 + 1)
    repeat (first | refine gGP ?_ | refine qO (Q_index_own rfl rfl .ownp rfl TE.h TI.h (by omega) (by rw [List.length_append, List.length_cons]; omega)) ?_ | refine qQ (Q_index_own rfl rfl .ownp rfl TE.h TI.h (by omega) (by rw [List.length_append, List.length_cons]; omega)) ?_)
    refine VR_markcall hm6 rfl rfl .ownp hpl TI.h (by repeat constructor) rfl rfl (by simp) .ownp (by repeat constructor) rfl rfl rfl (by decide) ?_
    repeat (first | refine gGP ?_ | refine qO (Q_index_own rfl rfl .ownp rfl TE.h TI.h (by omega) (by rw [List.length_append, List.length_cons]; omega)) ?_ | refine qQ (Q_index_own rfl rfl .ownp rfl TE.h TI.h (by omega) (by rw [List.length_append, List.length_cons]; omega)) ?_)
    refine VR_storeF (v := .i .i64 ((U.mks a_4 ((U.mks a_2_2 ((U.mks a_1 (kk + 1)).2 + 1 + 1)).2 + 1)).2)) rfl rfl .ownp hpl rfl rfl TI.h (by repeat constructor) .ownp (by repeat constructor) ?_
    have ht8 := markText_all ((U.mks a_4 ((U.mks a_2_2 ((U.mks a_1 (kk + 1)).2 + 1 + 1)).2 + 1)).2 + 1) (by omega) (by omega)
    repeat (first | refine gGP ?_ | refine qO (Q_index_own rfl rfl .ownp rfl TE.h TI.h (by omega) (by rw [List.length_append, List.length_cons]; omega)) ?_ | refine qQ (Q_index_own rfl rfl .ownp rfl TE.h TI.h (by omega) (by rw [List.length_append, List.length_cons]; omega)) ?_ | refine qO (Q_call rfl ht8 vA) ?_ | refine qQ (Q_call rfl ht8 vA) ?_)
    refine VR_storeF (v := .s (txt ((U.mks a_4 ((U.mks a_2_2 ((U.mks a_1 (kk + 1)).2 + 1 + 1)).2 + 1)).2 + 1))) rfl rfl .ownp hpl rfl rfl TI.h (by repeat constructor) .ownp (by repeat constructor) ?_
    have ht9 := markText_all ((U.mks a_4 ((U.mks a_2_2 ((U.mks a_1 (kk + 1)).2 + 1 + 1)).2 + 1)).2 + 1 + 1) (by omega) (by omega)
    repeat (first | refine gGP ?_ | refine qO (Q_index_own rfl rfl .ownp rfl TE.h TI.h (by omega) (by rw [List.length_append, List.length_cons]; omega)) ?_ | refine qQ (Q_index_own rfl rfl .ownp rfl TE.h TI.h (by omega) (by rw [List.length_append, List.length_cons]; omega)) ?_ | refine qO (Q_call rfl ht9 vA) ?_ | refine qQ (Q_call rfl ht9 vA) ?_)
    refine VR_storeF (v := .s (txt ((U.mks a_4 ((U.mks a_2_2 ((U.mks a_1 (kk + 1)).2 + 1 + 1)).2 + 1)).2 + 1 + 1))) rfl rfl .ownp hpl rfl rfl TI.h (by repeat constructor) .ownp (by repeat constructor) ?_
    repeat (first | refine gGP ?_ | refine qO (Q_index_own rfl rfl .ownp rfl TE.h TI.h (by omega) (by rw [List.length_append, List.length_cons]; omega)) ?_ | refine qQ (Q_index_own rfl rfl .ownp rfl TE.h TI.h (by omega) (by rw [List.length_append, List.length_cons]; omega)) ?_)
    refine VR_storeF (v := .i .i64 ((U.mks a_4 ((U.mks a_2_2 ((U.mks a_1 (kk + 1)).2 + 1 + 1)).2 + 1)).2 + 1 + 1 + 1)) rfl rfl .ownp hpl rfl rfl TI.h (by repeat constructor) .ownp (by repeat constructor) ?_
    repeat (first | refine gGP ?_ | refine qO (Q_index_own rfl rfl .ownp rfl TE.h TI.h (by omega) (by rw [List.length_append, List.length_cons]; omega)) ?_ | refine qQ (Q_index_own rfl rfl .ownp rfl TE.h TI.h (by omega) (by rw [List.length_append, List.length_cons]; omega)) ?_)
    refine VR_storeF (v := .i .i64 ((U.mks a_4 ((U.mks a_2_2 ((U.mks a_1 (kk + 1)).2 + 1 + 1)).2 + 1)).2 + 1 + 1 + 1 + 1)) rfl rfl .ownp hpl rfl rfl TI.h (by repeat constructor) .ownp (by repeat constructor) ?_
    have ht12 := markText_all ((U.mks a_4 ((U.mks a_2_2 ((U.mks a_1 (kk + 1)).2 + 1 + 1)).2 + 1)).2 + 1 + 1 + 1 + 1 + 1) (by omega) (by omega)
    repeat (first | refine gGP ?_ | refine qO (Q_index_own rfl rfl .ownp rfl TE.h TI.h (by omega) (by rw [List.length_append, List.length_cons]; omega)) ?_ | refine qQ (Q_index_own rfl rfl .ownp rfl TE.h TI.h (by omega) (by rw [List.length_append, List.length_cons]; omega)) ?_ | refine qO (Q_call rfl ht12 vA) ?_ | refine qQ (Q_call rfl ht12 vA) ?_)
    refine VR_storeF (v := .s (txt ((U.mks a_4 ((U.mks a_2_2 ((U.mks a_1 (kk + 1)).2 + 1 + 1)).2 + 1)).2 + 1 + 1 + 1 + 1 + 1))) rfl rfl .ownp hpl rfl rfl TI.h (by repeat constructor) .ownp (by repeat constructor) ?_
    have hm13 := ih3 a_0 a_1 a_2_0 a_2_1 a_2_2 a_3 a_4 a_5_0 a_5_1 a_5_2 a_5_3 a_5_4_0 a_5_4_1 a_5_4_2 a_5_5 a_5_6 hmem ((U.mks a_4 ((U.mks a_2_2 ((U.mks a_1 (kk + 1)).2 + 1 + 1)).2 + 1)).2 + 1 + 1 + 1 + 1 + 1 + 1) (by omega) (by simp only [U.lf]; omega)
    change MSpec _ _ _ _ (.sl 3 (U.mks a_5_4_2 ((U.mks a_4 ((U.mks a_2_2 ((U.mks a_1 (kk + 1)).2 + 1 + 1)).2 + 1)).2 + 1 + 1 + 1 + 1 + 1 + 1)).1) (U.mks a_5_4_2 ((U.mks a_4 ((U.mks a_2_2 ((U.mks a_1 (kk + 1)).2 + 1 + 1)).2 + 1)).2 + 1 + 1 + 1 + 1 + 1 + 1)).2 at hm13
    have hs13 := mks_snd a_5_4_2 ((U.mks a_4 ((U.mks a_2_2 ((U.mks a_1 (kk + 1)).2 + 1 + 1)).2 + 1)).2 + 1 + 1 + 1 + 1 + 1 + 1)
    repeat (first | refine gGP ?_ | refine qO (Q_index_own rfl rfl .ownp rfl TE.h TI.h (by omega) (by rw [List.length_append, List.length_cons]; omega)) ?_ | refine qQ (Q_index_own rfl rfl .ownp rfl TE.h TI.h (by omega) (by rw [List.length_append, List.length_cons]; omega)) ?_)
    refine VR_markcall hm13 rfl rfl .ownp hpl TI.h (by repeat constructor) rfl rfl (by simp) .ownp (by repeat constructor) rfl rfl rfl (by decide) ?_
    have hm14 := ih4 a_0 a_1 a_2_0 a_2_1 a_2_2 a_3 a_4 a_5_0 a_5_1 a_5_2 a_5_3 a_5_4_0 a_5_4_1 a_5_4_2 a_5_5 a_5_6 hmem ((U.mks a_5_4_2 ((U.mks a_4 ((U.mks a_2_2 ((U.mks a_1 (kk + 1)).2 + 1 + 1)).2 + 1)).2 + 1 + 1 + 1 + 1 + 1 + 1)).2) (by omega) (by simp only [U.lf]; omega)
    change MSpec _ _ _ _ (.sl 9 (U.mks a_5_5 ((U.mks a_5_4_2 ((U.mks a_4 ((U.mks a_2_2 ((U.mks a_1 (kk + 1)).2 + 1 + 1)).2 + 1)).2 + 1 + 1 + 1 + 1 + 1 + 1)).2)).1) (U.mks a_5_5 ((U.mks a_5_4_2 ((U.mks a_4 ((U.mks a_2_2 ((U.mks a_1 (kk + 1)).2 + 1 + 1)).2 + 1)).2 + 1 + 1 + 1 + 1 + 1 + 1)).2)).2 at hm14
    have hs14 := mks_snd a_5_5 ((U.mks a_5_4_2 ((U.mks a_4 ((U.mks a_2_2 ((U.mks a_1 (kk + 1)).2 + 1 + 1)).2 + 1)).2 + 1 + 1 + 1 + 1 + 1 + 1)).2)
    repeat (first | refine gGP ?_ | refine qO (Q_index_own rfl rfl .ownp rfl TE.h TI.h (by omega) (by rw [List.length_append, List.length_cons]; omega)) ?_ | refine qQ (Q_index_own rfl rfl .ownp rfl TE.h TI.h (by omega) (by rw [List.length_append, List.length_cons]; omega)) ?_)
    refine VR_markcall hm14 rfl rfl .ownp hpl TI.h (by repeat constructor) rfl rfl (by simp) .ownp (by repeat constructor) rfl rfl rfl (by decide) ?_
    have hm15 := ih5 a_0 a_1 a_2_0 a_2_1 a_2_2 a_3 a_4 a_5_0 a_5_1 a_5_2 a_5_3 a_5_4_0 a_5_4_1 a_5_4_2 a_5_5 a_5_6 hmem ((U.mks a_5_5 ((U.mks a_5_4_2 ((U.mks a_4 ((U.mks a_2_2 ((U.mks a_1 (kk + 1)).2 + 1 + 1)).2 + 1)).2 + 1 + 1 + 1 + 1 + 1 + 1)).2)).2) (by omega) (by simp only [U.lf]; omega)
    change MSpec _ _ _ _ (.sl 11 (U.mks a_5_6 ((U.mks a_5_5 ((U.mks a_5_4_2 ((U.mks a_4 ((U.mks a_2_2 ((U.mks a_1 (kk + 1)).2 + 1 + 1)).2 + 1)).2 + 1 + 1 + 1 + 1 + 1 + 1)).2)).2)).1) (U.mks a_5_6 ((U.mks a_5_5 ((U.mks a_5_4_2 ((U.mks a_4 ((U.mks a_2_2 ((U.mks a_1 (kk + 1)).2 + 1 + 1)).2 + 1)).2 + 1 + 1 + 1 + 1 + 1 + 1)).2)).2)).2 at hm15
    have hs15 := mks_snd a_5_6 ((U.mks a_5_5 ((U.mks a_5_4_2 ((U.mks a_4 ((U.mks a_2_2 ((U.mks a_1 (kk + 1)).2 + 1 + 1)).2 + 1)).2 + 1 + 1 + 1 + 1 + 1 + 1)).2)).2)
    repeat (first | refine gGP ?_ | refine qO (Q_index_own rfl rfl .ownp rfl TE.h TI.h (by omega) (by rw [List.length_append, List.length_cons]; omega)) ?_ | refine qQ (Q_index_own rfl rfl .ownp rfl TE.h TI.h (by omega) (by rw [List.length_append, List.length_cons]; omega)) ?_)
    refine VR_markcall hm15 rfl rfl .ownp hpl TI.h (by repeat constructor) rfl rfl (by simp) .ownp (by repeat constructor) rfl rfl rfl (by decide) ?_
    refine gGO ?_
    refine ⟨i + 1, by omega, by omega, ⟨rfl, ⟨⟨rfl, rfl⟩, ⟨?_, rfl⟩, ⟨rfl, rfl⟩, trivial⟩, ⟨[], ?_⟩, rfl⟩⟩
    · rw [hn2]; rfl
    · rw [hn1, hpost, List.append_assoc]; rfl
  · refine V_exit ?_
    simp only [decide_eq_false_iff_not] at hc2
    rw [hlen] at hc2
    have hkl : i = us.length := by omega
    subst hkl
    show V _ _ _ _ _
    refine gGO ?_
    refine V_ret ?_
    refine ⟨trivial, ?_, [], ?_⟩
    · show SV.d (.i .i64 (U.mks (us.take us.length) k0).2) = _
      rw [List.take_length]
    · simp only [List.take_length, List.drop_length, List.append_nil]
theorem markSignature_grp (u : U) : (∀ us, u = .sl 16 us → us.length ≤ big → (∀ x ∈ us, wt (.st 5) x) → PMk 126 u) := by
  refine U.ind (M := fun u => (∀ us, u = .sl 16 us → us.length ≤ big → (∀ x ∈ us, wt (.st 5) x) → PMk 126 u)) (fun u ih => ?_) u
  refine ?_
  · rintro us rfl hl hz
    exact markSignatureS_step hl hz (fun a_0 a_1 a_2_0 a_2_1 a_2_2 a_3 a_4 a_5_0 a_5_1 a_5_2 a_5_3 a_5_4_0 a_5_4_1 a_5_4_2 a_5_5 a_5_6 ha => by obtain ⟨_, _, _, _, _, _, hx_a, qa_0, qa_1, qa_2, qa_4, qa_5⟩ := inv_Signature (hz _ ha); cases hx_a; obtain ⟨_, _, _, hx_a_2, qa_2_0, qa_2_1, qa_2_2⟩ := inv_Type qa_2; cases hx_a_2; obtain ⟨_, _, _, _, _, _, _, hx_a_5, qa_5_0, qa_5_1, qa_5_2, qa_5_3, qa_5_4, qa_5_5, qa_5_6⟩ := inv_Expr qa_5; cases hx_a_5; obtain ⟨_, _, _, hx_a_5_4, qa_5_4_0, qa_5_4_1, qa_5_4_2⟩ := inv_Type qa_5_4; cases hx_a_5_4; exact markTypeS_all qa_1) (fun a_0 a_1 a_2_0 a_2_1 a_2_2 a_3 a_4 a_5_0 a_5_1 a_5_2 a_5_3 a_5_4_0 a_5_4_1 a_5_4_2 a_5_5 a_5_6 ha => by obtain ⟨_, _, _, _, _, _, hx_a, qa_0, qa_1, qa_2, qa_4, qa_5⟩ := inv_Signature (hz _ ha); cases hx_a; obtain ⟨_, _, _, hx_a_2, qa_2_0, qa_2_1, qa_2_2⟩ := inv_Type qa_2; cases hx_a_2; obtain ⟨_, _, _, _, _, _, _, hx_a_5, qa_5_0, qa_5_1, qa_5_2, qa_5_3, qa_5_4, qa_5_5, qa_5_6⟩ := inv_Expr qa_5; cases hx_a_5; obtain ⟨_, _, _, hx_a_5_4, qa_5_4_0, qa_5_4_1, qa_5_4_2⟩ := inv_Type qa_5_4; cases hx_a_5_4; exact markTypeS_all qa_2_2) (fun a_0 a_1 a_2_0 a_2_1 a_2_2 a_3 a_4 a_5_0 a_5_1 a_5_2 a_5_3 a_5_4_0 a_5_4_1 a_5_4_2 a_5_5 a_5_6 ha => by obtain ⟨_, _, _, _, _, _, hx_a, qa_0, qa_1, qa_2, qa_4, qa_5⟩ := inv_Signature (hz _ ha); cases hx_a; obtain ⟨_, _, _, hx_a_2, qa_2_0, qa_2_1, qa_2_2⟩ := inv_Type qa_2; cases hx_a_2; obtain ⟨_, _, _, _, _, _, _, hx_a_5, qa_5_0, qa_5_1, qa_5_2, qa_5_3, qa_5_4, qa_5_5, qa_5_6⟩ := inv_Expr qa_5; cases hx_a_5; obtain ⟨_, _, _, hx_a_5_4, qa_5_4_0, qa_5_4_1, qa_5_4_2⟩ := inv_Type qa_5_4; cases hx_a_5_4; exact markStringS_all qa_4) (fun a_0 a_1 a_2_0 a_2_1 a_2_2 a_3 a_4 a_5_0 a_5_1 a_5_2 a_5_3 a_5_4_0 a_5_4_1 a_5_4_2 a_5_5 a_5_6 ha => by obtain ⟨_, _, _, _, _, _, hx_a, qa_0, qa_1, qa_2, qa_4, qa_5⟩ := inv_Signature (hz _ ha); cases hx_a; obtain ⟨_, _, _, hx_a_2, qa_2_0, qa_2_1, qa_2_2⟩ := inv_Type qa_2; cases hx_a_2; obtain ⟨_, _, _, _, _, _, _, hx_a_5, qa_5_0, qa_5_1, qa_5_2, qa_5_3, qa_5_4, qa_5_5, qa_5_6⟩ := inv_Expr qa_5; cases hx_a_5; obtain ⟨_, _, _, hx_a_5_4, qa_5_4_0, qa_5_4_1, qa_5_4_2⟩ := inv_Type qa_5_4; cases hx_a_5_4; exact markTypeS_all qa_5_4_2) (fun a_0 a_1 a_2_0 a_2_1 a_2_2 a_3 a_4 a_5_0 a_5_1 a_5_2 a_5_3 a_5_4_0 a_5_4_1 a_5_4_2 a_5_5 a_5_6 ha => by obtain ⟨_, _, _, _, _, _, hx_a, qa_0, qa_1, qa_2, qa_4, qa_5⟩ := inv_Signature (hz _ ha); cases hx_a; obtain ⟨_, _, _, hx_a_2, qa_2_0, qa_2_1, qa_2_2⟩ := inv_Type qa_2; cases hx_a_2; obtain ⟨_, _, _, _, _, _, _, hx_a_5, qa_5_0, qa_5_1, qa_5_2, qa_5_3, qa_5_4, qa_5_5, qa_5_6⟩ := inv_Expr qa_5; cases hx_a_5; obtain ⟨_, _, _, hx_a_5_4, qa_5_4_0, qa_5_4_1, qa_5_4_2⟩ := inv_Type qa_5_4; cases hx_a_5_4; exact markExprS_all qa_5_5) (fun a_0 a_1 a_2_0 a_2_1 a_2_2 a_3 a_4 a_5_0 a_5_1 a_5_2 a_5_3 a_5_4_0 a_5_4_1 a_5_4_2 a_5_5 a_5_6 ha => by obtain ⟨_, _, _, _, _, _, hx_a, qa_0, qa_1, qa_2, qa_4, qa_5⟩ := inv_Signature (hz _ ha); cases hx_a; obtain ⟨_, _, _, hx_a_2, qa_2_0, qa_2_1, qa_2_2⟩ := inv_Type qa_2; cases hx_a_2; obtain ⟨_, _, _, _, _, _, _, hx_a_5, qa_5_0, qa_5_1, qa_5_2, qa_5_3, qa_5_4, qa_5_5, qa_5_6⟩ := inv_Expr qa_5; cases hx_a_5; obtain ⟨_, _, _, hx_a_5_4, qa_5_4_0, qa_5_4_1, qa_5_4_2⟩ := inv_Type qa_5_4; cases hx_a_5_4; exact markArmS_all qa_5_6)
theorem markSignatureS_all {us : List U} (h : us.length ≤ big ∧ ∀ x ∈ us, wt (.st 5) x) : PMk 126 (.sl 16 us) := (markSignature_grp (.sl 16 us)) us rfl h.1 h.2
set_option maxRecDepth 8000 in
set_option maxHeartbeats 8000000 in
theorem markTraitS_step {us : List U} (hl : us.length ≤ big) (hz : ∀ a ∈ us, wt (.st 6) a) (ih0 : ∀ (a_0 : List UInt8) (a_1 : List U) (a_2 : Bool) (a_3 : Bool) (a_4 : List U), .st [.s a_0, .sl 1 a_1, .b a_2, .b a_3, .sl 16 a_4] ∈ us → PMk 57 (.sl 1 a_1)) (ih1 : ∀ (a_0 : List UInt8) (a_1 : List U) (a_2 : Bool) (a_3 : Bool) (a_4 : List U), .st [.s a_0, .sl 1 a_1, .b a_2, .b a_3, .sl 16 a_4] ∈ us → PMk 126 (.sl 16 a_4)) : PMk 72 (.sl 5 us) := by
  intro k0 hk0 hk1
  have hlf : (U.sl 5 us).lf = U.lfs us := rfl
  rw [hlf] at hk1
  rw [big_eq] at hl
  show MSpec _ _ _ _ (.sl 5 (U.mks us k0).1) (U.mks us k0).2
  refine MSpec_intro (fun hv e => [.ownp (hv 0) (e 0) 5 us]) (fun hv e => [.ownp (hv 0) (e 0) 5 (U.mks us k0).1]) Tryz.func72 rfl (by kernel_rfl) rfl rfl (fun _ _ => .sl) (fun _ _ => .sl) rfl rfl fun A hv e _ => ?_
  refine gGO ?_
  refine V_block ?_
  refine V_loop (α := Nat)
    (fun i => ⟨[(0, .sl 0 0), (1, .d (.i .i64 (U.mks (us.take i) k0).2)), (5, .d (.i .i64 i))], [.ownp (hv 0) (e 0) 5 ((U.mks (us.take i) k0).1 ++ us.drop i)], Tryz.f72.ntmps⟩)
    (fun i => i ≤ us.length)
    (fun i => us.length - i) 0 ⟨rfl, ⟨⟨rfl, rfl⟩, ⟨rfl, rfl⟩, ⟨rfl, rfl⟩, trivial⟩, ⟨[], rfl⟩, rfl⟩ (by simp) ?_
  intro i hi
  have hlen : ((U.mks (us.take i) k0).1 ++ us.drop i).length = us.length := by simp [mks_len]; omega
  refine gGO ?_
  (first | refine V_cond rfl (fun hc2 => ?_) (fun hc2 => ?_) | refine V_seq (V_cond rfl (fun hc2 => ?_) (fun hc2 => ?_)))
  · refine V_skip ?_
    simp only [decide_eq_true_eq] at hc2
    rw [hlen] at hc2
    have hil : i < us.length := by omega
    obtain ⟨a, hget⟩ : ∃ a, us[i]? = some a := ⟨_, List.getElem?_eq_getElem hil⟩
    have hmem := List.mem_of_getElem? hget
    have hdrop := drop_get hget
    obtain ⟨hn1, hn2⟩ := mks_next hget k0
    have hmid := lfs_mid hget
    have hsnd := mks_snd (us.take i) k0
    have hpl : (U.mks (us.take i) k0).1.length = i := by simp [mks_len]; omega
    have hwa := hz a hmem
    obtain ⟨a_0, a_1, a_2, a_3, a_4, rfl, hwa_0, hwa_1, hwa_4⟩ := inv_Trait hwa
    have hlfa : ((.st [.s a_0, .sl 1 a_1, .b a_2, .b a_3, .sl 16 a_4]) : U).lf = 0 + 1 + U.lfs a_1 + 1 + 1 + U.lfs a_4 := by simp [U.lf, U.lfs] <;> omega
    rw [hlfa] at hmid
    refine V_cast [.ownp (hv 0) (e 0) 5 ((U.mks (us.take i) k0).1 ++ (.st [.s a_0, .sl 1 a_1, .b a_2, .b a_3, .sl 16 a_4]) :: us.drop (i + 1))] (by rw [hdrop]) ?_
    have hkp : 0 < (U.mks (us.take i) k0).2 := by omega
    have hkb : (U.mks (us.take i) k0).2 + (0 + 1 + U.lfs a_1 + 1 + 1 + U.lfs a_4 : Nat) ≤ 4611686018427387904 := by omega
    have hlen' : ((U.mks (us.take i) k0).1 ++ (.st [.s a_0, .sl 1 a_1, .b a_2, .b a_3, .sl 16 a_4]) :: us.drop (i + 1)).length = us.length := by rw [← hdrop]; exact hlen
    clear hdrop hsnd hlfa hmid hlen
    generalize (U.mks (us.take i) k0).1 = pre at hn1 hpl hlen' ⊢
    generalize (U.mks (us.take i) k0).2 = kk at hn1 hn2 hkp hkb ⊢
    generalize hpost : us.drop (i + 1) = post at hlen' ⊢
    rw [List.length_append, List.length_cons] at hlen'
    refine V_seq (V_block ?_)
    have ht0 := markText_all (kk) (by omega) (by omega)
    repeat (first | refine gGP ?_ | refine qO (Q_index_own rfl rfl .ownp rfl TE.h TI.h (by omega) (by rw [List.length_append, List.length_cons]; omega)) ?_ | refine qQ (Q_index_own rfl rfl .ownp rfl TE.h TI.h (by omega) (by rw [List.length_append, List.length_cons]; omega)) ?_ | refine qO (Q_call rfl ht0 vA) ?_ | refine qQ (Q_call rfl ht0 vA) ?_)
    refine VR_storeF (v := .s (txt (kk))) rfl rfl .ownp hpl rfl rfl TI.h (by repeat constructor) .ownp (by repeat constructor) ?_
    have hm1 := ih0 a_0 a_1 a_2 a_3 a_4 hmem (kk + 1) (by omega) (by simp only [U.lf]; omega)
    change MSpec _ _ _ _ (.sl 1 (U.mks a_1 (kk + 1)).1) (U.mks a_1 (kk + 1)).2 at hm1
    have hs1 := mks_snd a_1 (kk + 1)
    repeat (first | refine gGP ?_ | refine qO (Q_index_own rfl rfl .ownp rfl TE.h TI.h (by omega) (by rw [List.length_append, List.length_cons]; omega)) ?_ | refine qQ (Q_index_own rfl rfl .ownp rfl TE.h TI.h (by omega) (by rw [List.length_append, List.length_cons]; omega)) ?_)
    refine VR_markcall hm1 rfl rfl .ownp hpl TI.h (by repeat constructor) rfl rfl (by simp) .ownp (by repeat constructor) rfl rfl rfl (by decide) ?_
    repeat (first | refine gGP ?_ | refine qO (Q_index_own rfl rfl .ownp rfl TE.h TI.h (by omega) (by rw [List.length_append, List.length_cons]; omega)) ?_ | refine qQ (Q_index_own rfl rfl .ownp rfl TE.h TI.h (by omega) (by rw [List.length_append, List.length_cons]; omega)) ?_ | refine qO (Q_remI (m := (U.mks a_1 (kk + 1)).2) (by omega)) ?_ | refine qQ (Q_remI (m := (U.mks a_1 (kk + 1)).2) (by omega)) ?_)
    refine VR_storeF (v := .b (((U.mks a_1 (kk + 1)).2) % 3 == 0)) rfl rfl .ownp hpl rfl rfl TI.h (by repeat constructor) .ownp (by repeat constructor) ?_
    repeat (first | refine gGP ?_ | refine qO (Q_index_own rfl rfl .ownp rfl TE.h TI.h (by omega) (by rw [List.length_append, List.length_cons]; omega)) ?_ | refine qQ (Q_index_own rfl rfl .ownp rfl TE.h TI.h (by omega) (by rw [List.length_append, List.length_cons]; omega)) ?_ | refine qO (Q_remI (m := (U.mks a_1 (kk + 1)).2 + 1) (by omega)) ?_ | refine qQ (Q_remI (m := (U.mks a_1 (kk + 1)).2 + 1) (by omega)) ?_)
    refine VR_storeF (v := .b (((U.mks a_1 (kk + 1)).2 + 1) % 3 == 0)) rfl rfl .ownp hpl rfl rfl TI.h (by repeat constructor) .ownp (by repeat constructor) ?_
    have hm4 := ih1 a_0 a_1 a_2 a_3 a_4 hmem ((U.mks a_1 (kk + 1)).2 + 1 + 1) (by omega) (by simp only [U.lf]; omega)
    change MSpec _ _ _ _ (.sl 16 (U.mks a_4 ((U.mks a_1 (kk + 1)).2 + 1 + 1)).1) (U.mks a_4 ((U.mks a_1 (kk + 1)).2 + 1 + 1)).2 at hm4
    have hs4 := mks_snd a_4 ((U.mks a_1 (kk + 1)).2 + 1 + 1)
    repeat (first | refine gGP ?_ | refine qO (Q_index_own rfl rfl .ownp rfl TE.h TI.h (by omega) (by rw [List.length_append, List.length_cons]; omega)) ?_ | refine qQ (Q_index_own rfl rfl .ownp rfl TE.h TI.h (by omega) (by rw [List.length_append, List.length_cons]; omega)) ?_)
    refine VR_markcall hm4 rfl rfl .ownp hpl TI.h (by repeat constructor) rfl rfl (by simp) .ownp (by repeat constructor) rfl rfl rfl (by decide) ?_
    refine gGO ?_
    refine ⟨i + 1, by omega, by omega, ⟨rfl, ⟨⟨rfl, rfl⟩, ⟨?_, rfl⟩, ⟨rfl, rfl⟩, trivial⟩, ⟨[], ?_⟩, rfl⟩⟩
    · rw [hn2]; rfl
    · rw [hn1, hpost, List.append_assoc]; rfl
  · refine V_exit ?_
    simp only [decide_eq_false_iff_not] at hc2
    rw [hlen] at hc2
    have hkl : i = us.length := by omega
    subst hkl
    show V _ _ _ _ _
    refine gGO ?_
    refine V_ret ?_
    refine ⟨trivial, ?_, [], ?_⟩
    · show SV.d (.i .i64 (U.mks (us.take us.length) k0).2) = _
      rw [List.take_length]
    · simp only [List.take_length, List.drop_length, List.append_nil]
theorem markTrait_grp (u : U) : (∀ us, u = .sl 5 us → us.length ≤ big → (∀ x ∈ us, wt (.st 6) x) → PMk 72 u) := by
  refine U.ind (M := fun u => (∀ us, u = .sl 5 us → us.length ≤ big → (∀ x ∈ us, wt (.st 6) x) → PMk 72 u)) (fun u ih => ?_) u
  refine ?_
  · rintro us rfl hl hz
    exact markTraitS_step hl hz (fun a_0 a_1 a_2 a_3 a_4 ha => by obtain ⟨_, _, _, _, _, hx_a, qa_0, qa_1, qa_4⟩ := inv_Trait (hz _ ha); cases hx_a; exact markStringS_all qa_1) (fun a_0 a_1 a_2 a_3 a_4 ha => by obtain ⟨_, _, _, _, _, hx_a, qa_0, qa_1, qa_4⟩ := inv_Trait (hz _ ha); cases hx_a; exact markSignatureS_all qa_4)
theorem markTraitS_all {us : List U} (h : us.length ≤ big ∧ ∀ x ∈ us, wt (.st 6) x) : PMk 72 (.sl 5 us) := (markTrait_grp (.sl 5 us)) us rfl h.1 h.2
set_option maxRecDepth 8000 in
set_option maxHeartbeats 8000000 in
theorem markConstructorS_step {us : List U} (hl : us.length ≤ big) (hz : ∀ a ∈ us, wt (.st 7) a) (ih0 : ∀ (a_0 : List UInt8) (a_1 : List U), .st [.s a_0, .sl 3 a_1] ∈ us → PMk 61 (.sl 3 a_1)) : PMk 127 (.sl 2 us) := by
  intro k0 hk0 hk1
  have hlf : (U.sl 2 us).lf = U.lfs us := rfl
  rw [hlf] at hk1
  rw [big_eq] at hl
  show MSpec _ _ _ _ (.sl 2 (U.mks us k0).1) (U.mks us k0).2
  refine MSpec_intro (fun hv e => [.ownp (hv 0) (e 0) 2 us]) (fun hv e => [.ownp (hv 0) (e 0) 2 (U.mks us k0).1]) Tryz.func127 rfl (by kernel_rfl) rfl rfl (fun _ _ => .sl) (fun _ _ => .sl) rfl rfl fun A hv e _ => ?_
  refine gGO ?_
  refine V_block ?_
  refine V_loop (α := Nat)
    (fun i => ⟨[(0, .sl 0 0), (1, .d (.i .i64 (U.mks (us.take i) k0).2)), (5, .d (.i .i64 i))], [.ownp (hv 0) (e 0) 2 ((U.mks (us.take i) k0).1 ++ us.drop i)], Tryz.f127.ntmps⟩)
    (fun i => i ≤ us.length)
    (fun i => us.length - i) 0 ⟨rfl, ⟨⟨rfl, rfl⟩, ⟨rfl, rfl⟩, ⟨rfl, rfl⟩, trivial⟩, ⟨[], rfl⟩, rfl⟩ (by simp) ?_
  intro i hi
  have hlen : ((U.mks (us.take i) k0).1 ++ us.drop i).length = us.length := by simp [mks_len]; omega
  refine gGO ?_
  (first | refine V_cond rfl (fun hc2 => ?_) (fun hc2 => ?_) | refine V_seq (V_cond rfl (fun hc2 => ?_) (fun hc2 => ?_)))
  · refine V_skip ?_
    simp only [decide_eq_true_eq] at hc2
    rw [hlen] at hc2
    have hil : i < us.length := by omega
    obtain ⟨a, hget⟩ : ∃ a, us[i]? = some a := ⟨_, List.getElem?_eq_getElem hil⟩
    have hmem := List.mem_of_getElem? hget
    have hdrop := drop_get hget
    obtain ⟨hn1, hn2⟩ := mks_next hget k0
    have hmid := lfs_mid hget
    have hsnd := mks_snd (us.take i) k0
    have hpl : (U.mks (us.take i) k0).1.length = i := by simp [mks_len]; omega
    have hwa := hz a hmem
    obtain ⟨a_0, a_1, rfl, hwa_0, hwa_1⟩ := inv_Constructor hwa
    have hlfa : ((.st [.s a_0, .sl 3 a_1]) : U).lf = 0 + 1 + U.lfs a_1 := by simp [U.lf, U.lfs] <;> omega
    rw [hlfa] at hmid
    refine V_cast [.ownp (hv 0) (e 0) 2 ((U.mks (us.take i) k0).1 ++ (.st [.s a_0, .sl 3 a_1]) :: us.drop (i + 1))] (by rw [hdrop]) ?_
    have hkp : 0 < (U.mks (us.take i) k0).2 := by omega
    have hkb : (U.mks (us.take i) k0).2 + (0 + 1 + U.lfs a_1 : Nat) ≤ 4611686018427387904 := by omega
    have hlen' : ((U.mks (us.take i) k0).1 ++ (.st [.s a_0, .sl 3 a_1]) :: us.drop (i + 1)).length = us.length := by rw [← hdrop]; exact hlen
    clear hdrop hsnd hlfa hmid hlen
    generalize (U.mks (us.take i) k0).1 = pre at hn1 hpl hlen' ⊢
    generalize (U.mks (us.take i) k0).2 = kk at hn1 hn2 hkp hkb ⊢
    generalize hpost : us.drop (i + 1) = post at hlen' ⊢
    rw [List.length_append, List.length_cons] at hlen'
    refine V_seq (V_block ?_)
    have ht0 := markText_all (kk) (by omega) (by omega)
    repeat (first | refine gGP ?_ | refine qO (Q_index_own rfl rfl .ownp rfl TE.h TI.h (by omega) (by rw [List.length_append, List.length_cons]; omega)) ?_ | refine qQ (Q_index_own rfl rfl .ownp rfl TE.h TI.h (by omega) (by rw [List.length_append, List.length_cons]; omega)) ?_ | refine qO (Q_call rfl ht0 vA) ?_ | refine qQ (Q_call rfl ht0 vA) ?_)
    refine VR_storeF (v := .s (txt (kk))) rfl rfl .ownp hpl rfl rfl TI.h (by repeat constructor) .ownp (by repeat constructor) ?_
    have hm1 := ih0 a_0 a_1 hmem (kk + 1) (by omega) (by simp only [U.lf]; omega)
    change MSpec _ _ _ _ (.sl 3 (U.mks a_1 (kk + 1)).1) (U.mks a_1 (kk + 1)).2 at hm1
    have hs1 := mks_snd a_1 (kk + 1)
    repeat (first | refine gGP ?_ | refine qO (Q_index_own rfl rfl .ownp rfl TE.h TI.h (by omega) (by rw [List.length_append, List.length_cons]; omega)) ?_ | refine qQ (Q_index_own rfl rfl .ownp rfl TE.h TI.h (by omega) (by rw [List.length_append, List.length_cons]; omega)) ?_)
    refine VR_markcall hm1 rfl rfl .ownp hpl TI.h (by repeat constructor) rfl rfl (by simp) .ownp (by repeat constructor) rfl rfl rfl (by decide) ?_
    refine gGO ?_
    refine ⟨i + 1, by omega, by omega, ⟨rfl, ⟨⟨rfl, rfl⟩, ⟨?_, rfl⟩, ⟨rfl, rfl⟩, trivial⟩, ⟨[], ?_⟩, rfl⟩⟩
    · rw [hn2]; rfl
    · rw [hn1, hpost, List.append_assoc]; rfl
  · refine V_exit ?_
    simp only [decide_eq_false_iff_not] at hc2
    rw [hlen] at hc2
    have hkl : i = us.length := by omega
    subst hkl
    show V _ _ _ _ _
    refine gGO ?_
    refine V_ret ?_
    refine ⟨trivial, ?_, [], ?_⟩
    · show SV.d (.i .i64 (U.mks (us.take us.length) k0).2) = _
      rw [List.take_length]
    · simp only [List.take_length, List.drop_length, List.append_nil]
theorem markConstructor_grp (u : U) : (∀ us, u = .sl 2 us → us.length ≤ big → (∀ x ∈ us, wt (.st 7) x) → PMk 127 u) := by
  refine U.ind (M := fun u => (∀ us, u = .sl 2 us → us.length ≤ big → (∀ x ∈ us, wt (.st 7) x) → PMk 127 u)) (fun u ih => ?_) u
  refine ?_
  · rintro us rfl hl hz
    exact markConstructorS_step hl hz (fun a_0 a_1 ha => by obtain ⟨_, _, hx_a, qa_0, qa_1⟩ := inv_Constructor (hz _ ha); cases hx_a; exact markTypeS_all qa_1)
theorem markConstructorS_all {us : List U} (h : us.length ≤ big ∧ ∀ x ∈ us, wt (.st 7) x) : PMk 127 (.sl 2 us) := (markConstructor_grp (.sl 2 us)) us rfl h.1 h.2
set_option maxRecDepth 8000 in
set_option maxHeartbeats 8000000 in
theorem markDataTypeS_step {us : List U} (hl : us.length ≤ big) (hz : ∀ a ∈ us, wt (.st 8) a) (ih0 : ∀ (a_0 : List UInt8) (a_1 : List U) (a_2 : List U), .st [.s a_0, .sl 1 a_1, .sl 2 a_2] ∈ us → PMk 57 (.sl 1 a_1)) (ih1 : ∀ (a_0 : List UInt8) (a_1 : List U) (a_2 : List U), .st [.s a_0, .sl 1 a_1, .sl 2 a_2] ∈ us → PMk 127 (.sl 2 a_2)) : PMk 73 (.sl 3 us) := by
  intro k0 hk0 hk1
  have hlf : (U.sl 3 us).lf = U.lfs us := rfl
  rw [hlf] at hk1
  rw [big_eq] at hl
  show MSpec _ _ _ _ (.sl 3 (U.mks us k0).1) (U.mks us k0).2
  refine MSpec_intro (fun hv e => [.ownp (hv 0) (e 0) 3 us]) (fun hv e => [.ownp (hv 0) (e 0) 3 (U.mks us k0).1]) Tryz.func73 rfl (by kernel_rfl) rfl rfl (fun _ _ => .sl) (fun _ _ => .sl) rfl rfl fun A hv e _ => ?_
  refine gGO ?_
  refine V_block ?_
  refine V_loop (α := Nat)
    (fun i => ⟨[(0, .sl 0 0), (1, .d (.i .i64 (U.mks (us.take i) k0).2)), (5, .d (.i .i64 i))], [.ownp (hv 0) (e 0) 3 ((U.mks (us.take i) k0).1 ++ us.drop i)], Tryz.f73.ntmps⟩)
    (fun i => i ≤ us.length)
    (fun i => us.length - i) 0 ⟨rfl, ⟨⟨rfl, rfl⟩, ⟨rfl, rfl⟩, ⟨rfl, rfl⟩, trivial⟩, ⟨[], rfl⟩, rfl⟩ (by simp) ?_
  intro i hi
  have hlen : ((U.mks (us.take i) k0).1 ++ us.drop i).length = us.length := by simp [mks_len]; omega
  refine gGO ?_
  (first | refine V_cond rfl (fun hc2 => ?_) (fun hc2 => ?_) | refine V_seq (V_cond rfl (fun hc2 => ?_) (fun hc2 => ?_)))
  · refine V_skip ?_
    simp only [decide_eq_true_eq] at hc2
    rw [hlen] at hc2
    have hil : i < us.length := by omega
    obtain ⟨a, hget⟩ : ∃ a, us[i]? = some a := ⟨_, List.getElem?_eq_getElem hil⟩
    have hmem := List.mem_of_getElem? hget
    have hdrop := drop_get hget
    obtain ⟨hn1, hn2⟩ := mks_next hget k0
    have hmid := lfs_mid hget
    have hsnd := mks_snd (us.take i) k0
    have hpl : (U.mks (us.take i) k0).1.length = i := by simp [mks_len]; omega
    have hwa := hz a hmem
    obtain ⟨a_0, a_1, a_2, rfl, hwa_0, hwa_1, hwa_2⟩ := inv_DataType hwa
    have hlfa : ((.st [.s a_0, .sl 1 a_1, .sl 2 a_2]) : U).lf = 0 + 1 + U.lfs a_1 + U.lfs a_2 := by simp [U.lf, U.lfs] <;> omega
    rw [hlfa] at hmid
    refine V_cast [.ownp (hv 0) (e 0) 3 ((U.mks (us.take i) k0).1 ++ (.st [.s a_0, .sl 1 a_1, .sl 2 a_2]) :: us.drop (i + 1))] (by rw [hdrop]) ?_
    have hkp : 0 < (U.mks (us.take i) k0).2 := by omega
    have hkb : (U.mks (us.take i) k0).2 + (0 + 1 + U.lfs a_1 + U.lfs a_2 : Nat) ≤ 4611686018427387904 := by omega
    have hlen' : ((U.mks (us.take i) k0).1 ++ (.st [.s a_0, .sl 1 a_1, .sl 2 a_2]) :: us.drop (i + 1)).length = us.length := by rw [← hdrop]; exact hlen
    clear hdrop hsnd hlfa hmid hlen
    generalize (U.mks (us.take i) k0).1 = pre at hn1 hpl hlen' ⊢
    generalize (U.mks (us.take i) k0).2 = kk at hn1 hn2 hkp hkb ⊢
    generalize hpost : us.drop (i + 1) = post at hlen' ⊢
    rw [List.length_append, List.length_cons] at hlen'
    refine V_seq (V_block ?_)
    have ht0 := markText_all (kk) (by omega) (by omega)
    repeat (first | refine gGP ?_ | refine qO (Q_index_own rfl rfl .ownp rfl TE.h TI.h (by omega) (by rw [List.length_append, List.length_cons]; omega)) ?_ | refine qQ (Q_index_own rfl rfl .ownp rfl TE.h TI.h (by omega) (by rw [List.length_append, List.length_cons]; omega)) ?_ | refine qO (Q_call rfl ht0 vA) ?_ | refine qQ (Q_call rfl ht0 vA) ?_)
    refine VR_storeF (v := .s (txt (kk))) rfl rfl .ownp hpl rfl rfl TI.h (by repeat constructor) .ownp (by repeat constructor) ?_
    have hm1 := ih0 a_0 a_1 a_2 hmem (kk + 1) (by omega) (by simp only [U.lf]; omega)
    change MSpec _ _ _ _ (.sl 1 (U.mks a_1 (kk + 1)).1) (U.mks a_1 (kk + 1)).2 at hm1
    have hs1 := mks_snd a_1 (kk + 1)
    repeat (first | refine gGP ?_ | refine qO (Q_index_own rfl rfl .ownp rfl TE.h TI.h (by omega) (by rw [List.length_append, List.length_cons]; omega)) ?_ | refine qQ (Q_index_own rfl rfl .ownp rfl TE.h TI.h (by omega) (by rw [List.length_append, List.length_cons]; omega)) ?_)
    refine VR_markcall hm1 rfl rfl .ownp hpl TI.h (by repeat constructor) rfl rfl (by simp) .ownp (by repeat constructor) rfl rfl rfl (by decide) ?_
    have hm2 := ih1 a_0 a_1 a_2 hmem ((U.mks a_1 (kk + 1)).2) (by omega) (by simp only [U.lf]; omega)
    change MSpec _ _ _ _ (.sl 2 (U.mks a_2 ((U.mks a_1 (kk + 1)).2)).1) (U.mks a_2 ((U.mks a_1 (kk + 1)).2)).2 at hm2
    have hs2 := mks_snd a_2 ((U.mks a_1 (kk + 1)).2)
    repeat (first | refine gGP ?_ | refine qO (Q_index_own rfl rfl .ownp rfl TE.h TI.h (by omega) (by rw [List.length_append, List.length_cons]; omega)) ?_ | refine qQ (Q_index_own rfl rfl .ownp rfl TE.h TI.h (by omega) (by rw [List.length_append, List.length_cons]; omega)) ?_)
    refine VR_markcall hm2 rfl rfl .ownp hpl TI.h (by repeat constructor) rfl rfl (by simp) .ownp (by repeat constructor) rfl rfl rfl (by decide) ?_
    refine gGO ?_
    refine ⟨i + 1, by omega, by omega, ⟨rfl, ⟨⟨rfl, rfl⟩, ⟨?_, rfl⟩, ⟨rfl, rfl⟩, trivial⟩, ⟨[], ?_⟩, rfl⟩⟩
    · rw [hn2]; rfl
    · rw [hn1, hpost, List.append_assoc]; rfl
  · refine V_exit ?_
    simp only [decide_eq_false_iff_not] at hc2
    rw [hlen] at hc2
    have hkl : i = us.length := by omega
    subst hkl
    show V _ _ _ _ _
    refine gGO ?_
    refine V_ret ?_
    refine ⟨trivial, ?_, [], ?_⟩
    · show SV.d (.i .i64 (U.mks (us.take us.length) k0).2) = _
      rw [List.take_length]
    · simp only [List.take_length, List.drop_length, List.append_nil]
theorem markDataType_grp (u : U) : (∀ us, u = .sl 3 us → us.length ≤ big → (∀ x ∈ us, wt (.st 8) x) → PMk 73 u) := by
  refine U.ind (M := fun u => (∀ us, u = .sl 3 us → us.length ≤ big → (∀ x ∈ us, wt (.st 8) x) → PMk 73 u)) (fun u ih => ?_) u
  refine ?_
  · rintro us rfl hl hz
    exact markDataTypeS_step hl hz (fun a_0 a_1 a_2 ha => by obtain ⟨_, _, _, hx_a, qa_0, qa_1, qa_2⟩ := inv_DataType (hz _ ha); cases hx_a; exact markStringS_all qa_1) (fun a_0 a_1 a_2 ha => by obtain ⟨_, _, _, hx_a, qa_0, qa_1, qa_2⟩ := inv_DataType (hz _ ha); cases hx_a; exact markConstructorS_all qa_2)
theorem markDataTypeS_all {us : List U} (h : us.length ≤ big ∧ ∀ x ∈ us, wt (.st 8) x) : PMk 73 (.sl 3 us) := (markDataType_grp (.sl 3 us)) us rfl h.1 h.2
set_option maxRecDepth 8000 in
set_option maxHeartbeats 8000000 in
theorem markBoundS_step {us : List U} (hl : us.length ≤ big) (hz : ∀ a ∈ us, wt (.st 9) a) (ih0 : ∀ (a_0 : List UInt8) (a_1_0 : Int) (a_1_1 : List UInt8) (a_1_2 : List U), .st [.s a_0, .st [.i .i64 a_1_0, .s a_1_1, .sl 3 a_1_2]] ∈ us → PMk 61 (.sl 3 a_1_2)) : PMk 58 (.sl 4 us) := by
  intro k0 hk0 hk1
  have hlf : (U.sl 4 us).lf = U.lfs us := rfl
  rw [hlf] at hk1
  rw [big_eq] at hl
  show MSpec _ _ _ _ (.sl 4 (U.mks us k0).1) (U.mks us k0).2
  refine MSpec_intro (fun hv e => [.ownp (hv 0) (e 0) 4 us]) (fun hv e => [.ownp (hv 0) (e 0) 4 (U.mks us k0).1]) Tryz.func58 rfl (by kernel_rfl) rfl rfl (fun _ _ => .sl) (fun _ _ => .sl) rfl rfl fun A hv e _ => ?_
  refine gGO ?_
  refine V_block ?_
  refine V_loop (α := Nat)
    (fun i => ⟨[(0, .sl 0 0), (1, .d (.i .i64 (U.mks (us.take i) k0).2)), (5, .d (.i .i64 i))], [.ownp (hv 0) (e 0) 4 ((U.mks (us.take i) k0).1 ++ us.drop i)], Tryz.f58.ntmps⟩)
    (fun i => i ≤ us.length)
    (fun i => us.length - i) 0 ⟨rfl, ⟨⟨rfl, rfl⟩, ⟨rfl, rfl⟩, ⟨rfl, rfl⟩, trivial⟩, ⟨[], rfl⟩, rfl⟩ (by simp) ?_
  intro i hi
  have hlen : ((U.mks (us.take i) k0).1 ++ us.drop i).length = us.length := by simp [mks_len]; omega
  refine gGO ?_
  (first | refine V_cond rfl (fun hc2 => ?_) (fun hc2 => ?_) | refine V_seq (V_cond rfl (fun hc2 => ?_) (fun hc2 => ?_)))
  · refine V_skip ?_
    simp only [decide_eq_true_eq] at hc2
    rw [hlen] at hc2
    have hil : i < us.length := by omega
    obtain ⟨a, hget⟩ : ∃ a, us[i]? = some a := ⟨_, List.getElem?_eq_getElem hil⟩
    have hmem := List.mem_of_getElem? hget
    have hdrop := drop_get hget
    obtain ⟨hn1, hn2⟩ := mks_next hget k0
    have hmid := lfs_mid hget
    have hsnd := mks_snd (us.take i) k0
    have hpl : (U.mks (us.take i) k0).1.length = i := by simp [mks_len]; omega
    have hwa := hz a hmem
    obtain ⟨a_0, a_1, rfl, hwa_0, hwa_1⟩ := inv_Bound hwa
    obtain ⟨a_1_0, a_1_1, a_1_2, rfl, hwa_1_0, hwa_1_1, hwa_1_2⟩ := inv_Type hwa_1
    have hlfa : ((.st [.s a_0, .st [.i .i64 a_1_0, .s a_1_1, .sl 3 a_1_2]]) : U).lf = 0 + 1 + 1 + 1 + U.lfs a_1_2 := by simp [U.lf, U.lfs] <;> omega
    rw [hlfa] at hmid
    refine V_cast [.ownp (hv 0) (e 0) 4 ((U.mks (us.take i) k0).1 ++ (.st [.s a_0, .st [.i .i64 a_1_0, .s a_1_1, .sl 3 a_1_2]]) :: us.drop (i + 1))] (by rw [hdrop]) ?_
    have hkp : 0 < (U.mks (us.take i) k0).2 := by omega
    have hkb : (U.mks (us.take i) k0).2 + (0 + 1 + 1 + 1 + U.lfs a_1_2 : Nat) ≤ 4611686018427387904 := by omega
    have hlen' : ((U.mks (us.take i) k0).1 ++ (.st [.s a_0, .st [.i .i64 a_1_0, .s a_1_1, .sl 3 a_1_2]]) :: us.drop (i + 1)).length = us.length := by rw [← hdrop]; exact hlen
    clear hdrop hsnd hlfa hmid hlen
    generalize (U.mks (us.take i) k0).1 = pre at hn1 hpl hlen' ⊢
    generalize (U.mks (us.take i) k0).2 = kk at hn1 hn2 hkp hkb ⊢
    generalize hpost : us.drop (i + 1) = post at hlen' ⊢
    rw [List.length_append, List.length_cons] at hlen'
    refine V_seq (V_block ?_)
    have ht0 := markText_all (kk) (by omega) (by omega)
    repeat (first | refine gGP ?_ | refine qO (Q_index_own rfl rfl .ownp rfl TE.h TI.h (by omega) (by rw [List.length_append, List.length_cons]; omega)) ?_ | refine qQ (Q_index_own rfl rfl .ownp rfl TE.h TI.h (by omega) (by rw [List.length_append, List.length_cons]; omega)) ?_ | refine qO (Q_call rfl ht0 vA) ?_ | refine qQ (Q_call rfl ht0 vA) ?_)
    refine VR_storeF (v := .s (txt (kk))) rfl rfl .ownp hpl rfl rfl TI.h (by repeat constructor) .ownp (by repeat constructor) ?_
    repeat (first | refine gGP ?_ | refine qO (Q_index_own rfl rfl .ownp rfl TE.h TI.h (by omega) (by rw [List.length_append, List.length_cons]; omega)) ?_ | refine qQ (Q_index_own rfl rfl .ownp rfl TE.h TI.h (by omega) (by rw [List.length_append, List.length_cons]; omega)) ?_)
    refine VR_storeF (v := .i .i64 (kk + 1)) rfl rfl .ownp hpl rfl rfl TI.h (by repeat constructor) .ownp (by repeat constructor) ?_
    have ht2 := markText_all (kk + 1 + 1) (by omega) (by omega)
    repeat (first | refine gGP ?_ | refine qO (Q_index_own rfl rfl .ownp rfl TE.h TI.h (by omega) (by rw [List.length_append, List.length_cons]; omega)) ?_ | refine qQ (Q_index_own rfl rfl .ownp rfl TE.h TI.h (by omega) (by rw [List.length_append, List.length_cons]; omega)) ?_ | refine qO (Q_call rfl ht2 vA) ?_ | refine qQ (Q_call rfl ht2 vA) ?_)
    refine VR_storeF (v := .s (txt (kk + 1 + 1))) rfl rfl .ownp hpl rfl rfl TI.h (by repeat constructor) .ownp (by repeat constructor) ?_
    have hm3 := ih0 a_0 a_1_0 a_1_1 a_1_2 hmem (kk + 1 + 1 + 1) (by omega) (by simp only [U.lf]; omega)
    change MSpec _ _ _ _ (.sl 3 (U.mks a_1_2 (kk + 1 + 1 + 1)).1) (U.mks a_1_2 (kk + 1 + 1 + 1)).2 at hm3
    have hs3 := mks_snd a_1_2 (kk + 1 + 1 + 1)
    repeat (first | refine gGP ?_ | refine qO (Q_index_own rfl rfl .ownp rfl TE.h TI.h (by omega) (by rw [List.length_append, List.length_cons]; omega)) ?_ | refine qQ (Q_index_own rfl rfl .ownp rfl TE.h TI.h (by omega) (by rw [List.length_append, List.length_cons]; omega)) ?_)
    refine VR_markcall hm3 rfl rfl .ownp hpl TI.h (by repeat constructor) rfl rfl (by simp) .ownp (by repeat constructor) rfl rfl rfl (by decide) ?_
    refine gGO ?_
    refine ⟨i + 1, by omega, by omega, ⟨rfl, ⟨⟨rfl, rfl⟩, ⟨?_, rfl⟩, ⟨rfl, rfl⟩, trivial⟩, ⟨[], ?_⟩, rfl⟩⟩
    · rw [hn2]; rfl
    · rw [hn1, hpost, List.append_assoc]; rfl
  · refine V_exit ?_
    simp only [decide_eq_false_iff_not] at hc2
    rw [hlen] at hc2
    have hkl : i = us.length := by omega
    subst hkl
    show V _ _ _ _ _
    refine gGO ?_
    refine V_ret ?_
    refine ⟨trivial, ?_, [], ?_⟩
    · show SV.d (.i .i64 (U.mks (us.take us.length) k0).2) = _
      rw [List.take_length]
    · simp only [List.take_length, List.drop_length, List.append_nil]
theorem markBound_grp (u : U) : (∀ us, u = .sl 4 us → us.length ≤ big → (∀ x ∈ us, wt (.st 9) x) → PMk 58 u) := by
  refine U.ind (M := fun u => (∀ us, u = .sl 4 us → us.length ≤ big → (∀ x ∈ us, wt (.st 9) x) → PMk 58 u)) (fun u ih => ?_) u
  refine ?_
  · rintro us rfl hl hz
    exact markBoundS_step hl hz (fun a_0 a_1_0 a_1_1 a_1_2 ha => by obtain ⟨_, _, hx_a, qa_0, qa_1⟩ := inv_Bound (hz _ ha); cases hx_a; obtain ⟨_, _, _, hx_a_1, qa_1_0, qa_1_1, qa_1_2⟩ := inv_Type qa_1; cases hx_a_1; exact markTypeS_all qa_1_2)
theorem markBoundS_all {us : List U} (h : us.length ≤ big ∧ ∀ x ∈ us, wt (.st 9) x) : PMk 58 (.sl 4 us) := (markBound_grp (.sl 4 us)) us rfl h.1 h.2
set_option maxRecDepth 8000 in
set_option maxHeartbeats 8000000 in
theorem markMethodS_step {us : List U} (hl : us.length ≤ big) (hz : ∀ a ∈ us, wt (.st 10) a) (ih0 : ∀ (a_0 : List UInt8) (a_1 : List U) (a_2_0 : Int) (a_2_1 : List UInt8) (a_2_2 : List UInt8) (a_2_3 : Int) (a_2_4_0 : Int) (a_2_4_1 : List UInt8) (a_2_4_2 : List U) (a_2_5 : List U) (a_2_6 : List U), .st [.s a_0, .sl 1 a_1, .st [.i .i64 a_2_0, .s a_2_1, .s a_2_2, .i .i64 a_2_3, .st [.i .i64 a_2_4_0, .s a_2_4_1, .sl 3 a_2_4_2], .sl 9 a_2_5, .sl 11 a_2_6]] ∈ us → PMk 57 (.sl 1 a_1)) (ih1 : ∀ (a_0 : List UInt8) (a_1 : List U) (a_2_0 : Int) (a_2_1 : List UInt8) (a_2_2 : List UInt8) (a_2_3 : Int) (a_2_4_0 : Int) (a_2_4_1 : List UInt8) (a_2_4_2 : List U) (a_2_5 : List U) (a_2_6 : List U), .st [.s a_0, .sl 1 a_1, .st [.i .i64 a_2_0, .s a_2_1, .s a_2_2, .i .i64 a_2_3, .st [.i .i64 a_2_4_0, .s a_2_4_1, .sl 3 a_2_4_2], .sl 9 a_2_5, .sl 11 a_2_6]] ∈ us → PMk 61 (.sl 3 a_2_4_2)) (ih2 : ∀ (a_0 : List UInt8) (a_1 : List U) (a_2_0 : Int) (a_2_1 : List UInt8) (a_2_2 : List UInt8) (a_2_3 : Int) (a_2_4_0 : Int) (a_2_4_1 : List UInt8) (a_2_4_2 : List U) (a_2_5 : List U) (a_2_6 : List U), .st [.s a_0, .sl 1 a_1, .st [.i .i64 a_2_0, .s a_2_1, .s a_2_2, .i .i64 a_2_3, .st [.i .i64 a_2_4_0, .s a_2_4_1, .sl 3 a_2_4_2], .sl 9 a_2_5, .sl 11 a_2_6]] ∈ us → PMk 129 (.sl 9 a_2_5)) (ih3 : ∀ (a_0 : List UInt8) (a_1 : List U) (a_2_0 : Int) (a_2_1 : List UInt8) (a_2_2 : List UInt8) (a_2_3 : Int) (a_2_4_0 : Int) (a_2_4_1 : List UInt8) (a_2_4_2 : List U) (a_2_5 : List U) (a_2_6 : List U), .st [.s a_0, .sl 1 a_1, .st [.i .i64 a_2_0, .s a_2_1, .s a_2_2, .i .i64 a_2_3, .st [.i .i64 a_2_4_0, .s a_2_4_1, .sl 3 a_2_4_2], .sl 9 a_2_5, .sl 11 a_2_6]] ∈ us → PMk 130 (.sl 11 a_2_6)) : PMk 128 (.sl 11 us) := by
  intro k0 hk0 hk1
  have hlf : (U.sl 11 us).lf = U.lfs us := rfl
  rw [hlf] at hk1
  rw [big_eq] at hl
  show MSpec _ _ _ _ (.sl 11 (U.mks us k0).1) (U.mks us k0).2
  refine MSpec_intro (fun hv e => [.ownp (hv 0) (e 0) 11 us]) (fun hv e => [.ownp (hv 0) (e 0) 11 (U.mks us k0).1]) Tryz.func128 rfl (by kernel_rfl) rfl rfl (fun _ _ => .sl) (fun _ _ => .sl) rfl rfl fun A hv e _ => ?_
  refine gGO ?_
  refine V_block ?_
  refine V_loop (α := Nat)
    (fun i => ⟨[(0, .sl 0 0), (1, .d (.i .i64 (U.mks (us.take i) k0).2)), (5, .d (.i .i64 i))], [.ownp (hv 0) (e 0) 11 ((U.mks (us.take i) k0).1 ++ us.drop i)], Tryz.f128.ntmps⟩)
    (fun i => i ≤ us.length)
    (fun i => us.length - i) 0 ⟨rfl, ⟨⟨rfl, rfl⟩, ⟨rfl, rfl⟩, ⟨rfl, rfl⟩, trivial⟩, ⟨[], rfl⟩, rfl⟩ (by simp) ?_
  intro i hi
  have hlen : ((U.mks (us.take i) k0).1 ++ us.drop i).length = us.length := by simp [mks_len]; omega
  refine gGO ?_
  (first | refine V_cond rfl (fun hc2 => ?_) (fun hc2 => ?_) | refine V_seq (V_cond rfl (fun hc2 => ?_) (fun hc2 => ?_)))
  · refine V_skip ?_
    simp only [decide_eq_true_eq] at hc2
    rw [hlen] at hc2
    have hil : i < us.length := by omega
    obtain ⟨a, hget⟩ : ∃ a, us[i]? = some a := ⟨_, List.getElem?_eq_getElem hil⟩
    have hmem := List.mem_of_getElem? hget
    have hdrop := drop_get hget
    obtain ⟨hn1, hn2⟩ := mks_next hget k0
    have hmid := lfs_mid hget
    have hsnd := mks_snd (us.take i) k0
    have hpl : (U.mks (us.take i) k0).1.length = i := by simp [mks_len]; omega
    have hwa := hz a hmem
    obtain ⟨a_0, a_1, a_2, rfl, hwa_0, hwa_1, hwa_2⟩ := inv_Method hwa
    obtain ⟨a_2_0, a_2_1, a_2_2, a_2_3, a_2_4, a_2_5, a_2_6, rfl, hwa_2_0, hwa_2_1, hwa_2_2, hwa_2_3, hwa_2_4, hwa_2_5, hwa_2_6⟩ := inv_Expr hwa_2
    obtain ⟨a_2_4_0, a_2_4_1, a_2_4_2, rfl, hwa_2_4_0, hwa_2_4_1, hwa_2_4_2⟩ := inv_Type hwa_2_4
    have hlfa : ((.st [.s a_0, .sl 1 a_1, .st [.i .i64 a_2_0, .s a_2_1, .s a_2_2, .i .i64 a_2_3, .st [.i .i64 a_2_4_0, .s a_2_4_1, .sl 3 a_2_4_2], .sl 9 a_2_5, .sl 11 a_2_6]]) : U).lf = 0 + 1 + U.lfs a_1 + 1 + 1 + 1 + 1 + 1 + 1 + U.lfs a_2_4_2 + U.lfs a_2_5 + U.lfs a_2_6 := by simp [U.lf, U.lfs] <;> omega
    rw [hlfa] at hmid
    refine V_cast [.ownp (hv 0) (e 0) 11 ((U.mks (us.take i) k0).1 ++ (.st [.s a_0, .sl 1 a_1, .st [.i .i64 a_2_0, .s a_2_1, .s a_2_2, .i .i64 a_2_3, .st [.i .i64 a_2_4_0, .s a_2_4_1, .sl 3 a_2_4_2], .sl 9 a_2_5, .sl 11 a_2_6]]) :: us.drop (i + 1))] (by rw [hdrop]) ?_
    have hkp : 0 < (U.mks (us.take i) k0).2 := by omega
    have hkb : (U.mks (us.take i) k0).2 + (0 + 1 + U.lfs a_1 + 1 + 1 + 1 + 1 + 1 + 1 + U.lfs a_2_4_2 + U.lfs a_2_5 + U.lfs a_2_6 : Nat) ≤ 4611686018427387904 := by omega
    have hlen' : ((U.mks (us.take i) k0).1 ++ (.st [.s a_0, .sl 1 a_1, .st [.i .i64 a_2_0, .s a_2_1, .s a_2_2, .i .i64 a_2_3, .st [.i .i64 a_2_4_0, .s a_2_4_1, .sl 3 a_2_4_2], .sl 9 a_2_5, .sl 11 a_2_6]]) :: us.drop (i + 1)).length = us.length := by rw [← hdrop]; exact hlen
    clear hdrop hsnd hlfa hmid hlen
    generalize (U.mks (us.take i) k0).1 = pre at hn1 hpl hlen' ⊢
    generalize (U.mks (us.take i) k0).2 = kk at hn1 hn2 hkp hkb ⊢
    generalize hpost : us.drop (i + 1) = post at hlen' ⊢
    rw [List.length_append, List.length_cons] at hlen'
    refine V_seq (V_block ?_)
    have ht0 := markText_all (kk) (by omega) (by omega)
    repeat (first | refine gGP ?_ | refine qO (Q_index_own rfl rfl .ownp rfl TE.h TI.h (by omega) (by rw [List.length_append, List.length_cons]; omega)) ?_ | refine qQ (Q_index_own rfl rfl .ownp rfl TE.h TI.h (by omega) (by rw [List.length_append, List.length_cons]; omega)) ?_ | refine qO (Q_call rfl ht0 vA) ?_ | refine qQ (Q_call rfl ht0 vA) ?_)
    refine VR_storeF (v := .s (txt (kk))) rfl rfl .ownp hpl rfl rfl TI.h (by repeat constructor) .ownp (by repeat constructor) ?_
    have hm1 := ih0 a_0 a_1 a_2_0 a_2_1 a_2_2 a_2_3 a_2_4_0 a_2_4_1 a_2_4_2 a_2_5 a_2_6 hmem (kk + 1) (by omega) (by simp only [U.lf]; omega)
    change MSpec _ _ _ _ (.sl 1 (U.mks a_1 (kk + 1)).1) (U.mks a_1 (kk + 1)).2 at hm1
    have hs1 := mks_snd a_1 (kk + 1)
    repeat (first | refine gGP ?_ | refine qO (Q_index_own rfl rfl .ownp rfl TE.h TI.h (by omega) (by rw [List.length_append, List.length_cons]; omega)) ?_ | refine qQ (Q_index_own rfl rfl .ownp rfl TE.h TI.h (by omega) (by rw [List.length_append, List.length_cons]; omega)) ?_)
    refine VR_markcall hm1 rfl rfl .ownp hpl TI.h (by repeat constructor) rfl rfl (by simp) .ownp (by repeat constructor) rfl rfl rfl (by decide) ?_
    repeat (first | refine gGP ?_ | refine qO (Q_index_own rfl rfl .ownp rfl TE.h TI.h (by omega) (by rw [List.length_append, List.length_cons]; omega)) ?_ | refine qQ (Q_index_own rfl rfl .ownp rfl TE.h TI.h (by omega) (by rw [List.length_append, List.length_cons]; omega)) ?_)
    refine VR_storeF (v := .i .i64 ((U.mks a_1 (kk + 1)).2)) rfl rfl .ownp hpl rfl rfl TI.h (by repeat constructor) .ownp (by repeat constructor) ?_
    have ht3 := markText_all ((U.mks a_1 (kk + 1)).2 + 1) (by omega) (by omega)
    repeat (first | refine gGP ?_ | refine qO (Q_index_own rfl rfl .ownp rfl TE.h TI.h (by omega) (by rw [List.length_append, List.length_cons]; omega)) ?_ | refine qQ (Q_index_own rfl rfl .ownp rfl TE.h TI.h (by omega) (by rw [List.length_append, List.length_cons]; omega)) ?_ | refine qO (Q_call rfl ht3 vA) ?_ | refine qQ (Q_call rfl ht3 vA) ?_)
    refine VR_storeF (v := .s (txt ((U.mks a_1 (kk + 1)).2 + 1))) rfl rfl .ownp hpl rfl rfl TI.h (by repeat constructor) .ownp (by repeat constructor) ?_
    have ht4 := markText_all ((U.mks a_1 (kk + 1)).2 + 1 + 1) (by omega) (by omega)
    repeat (first | refine gGP ?_ | refine qO (Q_index_own rfl rfl .ownp rfl TE.h TI.h (by omega) (by rw [List.length_append, List.length_cons]; omega)) ?_ | refine qQ (Q_index_own rfl rfl .ownp rfl TE.h TI.h (by omega) (by rw [List.length_append, List.length_cons]; omega)) ?_ | refine qO (Q_call rfl ht4 vA) ?_ | refine qQ (Q_call rfl ht4 vA) ?_)
    refine VR_storeF (v := .s (txt ((U.mks a_1 (kk + 1)).2 + 1 + 1))) rfl rfl .ownp hpl rfl rfl TI.h (by repeat constructor) .ownp (by repeat constructor) ?_
    repeat (first | refine gGP ?_ | refine qO (Q_index_own rfl rfl .ownp rfl TE.h TI.h (by omega) (by rw [List.length_append, List.length_cons]; omega)) ?_ | refine qQ (Q_index_own rfl rfl .ownp rfl TE.h TI.h (by omega) (by rw [List.length_append, List.length_cons]; omega)) ?_)
    refine VR_storeF (v := .i .i64 ((U.mks a_1 (kk + 1)).2 + 1 + 1 + 1)) rfl rfl .ownp hpl rfl rfl TI.h (by repeat constructor) .ownp (by repeat constructor) ?_
    repeat (first | refine gGP ?_ | refine qO (Q_index_own rfl rfl .ownp rfl TE.h TI.h (by omega) (by rw [List.length_append, List.length_cons]; omega)) ?_ | refine qQ (Q_index_own rfl rfl .ownp rfl TE.h TI.h (by omega) (by rw [List.length_append, List.length_cons]; omega)) ?_)
    refine VR_storeF (v := .i .i64 ((U.mks a_1 (kk + 1)).2 + 1 + 1 + 1 + 1)) rfl rfl .ownp hpl rfl rfl TI.h (by repeat constructor) .ownp (by repeat constructor) ?_
    have ht7 := markText_all ((U.mks a_1 (kk + 1)).2 + 1 + 1 + 1 + 1 + 1) (by omega) (by omega)
    repeat (first | refine gGP ?_ | refine qO (Q_index_own rfl rfl .ownp rfl TE.h TI.h (by omega) (by rw [List.length_append, List.length_cons]; omega)) ?_ | refine qQ (Q_index_own rfl rfl .ownp rfl TE.h TI.h (by omega) (by rw [List.length_append, List.length_cons]; omega)) ?_ | refine qO (Q_call rfl ht7 vA) ?_ | refine qQ (Q_call rfl ht7 vA) ?_)
    refine VR_storeF (v := .s (txt ((U.mks a_1 (kk + 1)).2 + 1 + 1 + 1 + 1 + 1))) rfl rfl .ownp hpl rfl rfl TI.h (by repeat constructor) .ownp (by repeat constructor) ?_
    have hm8 := ih1 a_0 a_1 a_2_0 a_2_1 a_2_2 a_2_3 a_2_4_0 a_2_4_1 a_2_4_2 a_2_5 a_2_6 hmem ((U.mks a_1 (kk + 1)).2 + 1 + 1 + 1 + 1 + 1 + 1) (by omega) (by simp only [U.lf]; omega)
    change MSpec _ _ _ _ (.sl 3 (U.mks a_2_4_2 ((U.mks a_1 (kk + 1)).2 + 1 + 1 + 1 + 1 + 1 + 1)).1) (U.mks a_2_4_2 ((U.mks a_1 (kk + 1)).2 + 1 + 1 + 1 + 1 + 1 + 1)).2 at hm8
    have hs8 := mks_snd a_2_4_2 ((U.mks a_1 (kk + 1)).2 + 1 + 1 + 1 + 1 + 1 + 1)
    repeat (first | refine gGP ?_ | refine qO (Q_index_own rfl rfl .ownp rfl TE.h TI.h (by omega) (by rw [List.length_append, List.length_cons]; omega)) ?_ | refine qQ (Q_index_own rfl rfl .ownp rfl TE.h TI.h (by omega) (by rw [List.length_append, List.length_cons]; omega)) ?_)
    refine VR_markcall hm8 rfl rfl .ownp hpl TI.h (by repeat constructor) rfl rfl (by simp) .ownp (by repeat constructor) rfl rfl rfl (by decide) ?_
    have hm9 := ih2 a_0 a_1 a_2_0 a_2_1 a_2_2 a_2_3 a_2_4_0 a_2_4_1 a_2_4_2 a_2_5 a_2_6 hmem ((U.mks a_2_4_2 ((U.mks a_1 (kk + 1)).2 + 1 + 1 + 1 + 1 + 1 + 1)).2) (by omega) (by simp only [U.lf]; omega)
    change MSpec _ _ _ _ (.sl 9 (U.mks a_2_5 ((U.mks a_2_4_2 ((U.mks a_1 (kk + 1)).2 + 1 + 1 + 1 + 1 + 1 + 1)).2)).1) (U.mks a_2_5 ((U.mks a_2_4_2 ((U.mks a_1 (kk + 1)).2 + 1 + 1 + 1 + 1 + 1 + 1)).2)).2 at hm9
    have hs9 := mks_snd a_2_5 ((U.mks a_2_4_2 ((U.mks a_1 (kk + 1)).2 + 1 + 1 + 1 + 1 + 1 + 1)).2)
    repeat (first | refine gGP ?_ | refine qO (Q_index_own rfl rfl .ownp rfl TE.h TI.h (by omega) (by rw [List.length_append, List.length_cons]; omega)) ?_ | refine qQ (Q_index_own rfl rfl .ownp rfl TE.h TI.h (by omega) (by rw [List.length_append, List.length_cons]; omega)) ?_)
    refine VR_markcall hm9 rfl rfl .ownp hpl TI.h (by repeat constructor) rfl rfl (by simp) .ownp (by repeat constructor) rfl rfl rfl (by decide) ?_
    have hm10 := ih3 a_0 a_1 a_2_0 a_2_1 a_2_2 a_2_3 a_2_4_0 a_2_4_1 a_2_4_2 a_2_5 a_2_6 hmem ((U.mks a_2_5 ((U.mks a_2_4_2 ((U.mks a_1 (kk + 1)).2 + 1 + 1 + 1 + 1 + 1 + 1)).2)).2) (by omega) (by simp only [U.lf]; omega)
    change MSpec _ _ _ _ (.sl 11 (U.mks a_2_6 ((U.mks a_2_5 ((U.mks a_2_4_2 ((U.mks a_1 (kk + 1)).2 + 1 + 1 + 1 + 1 + 1 + 1)).2)).2)).1) (U.mks a_2_6 ((U.mks a_2_5 ((U.mks a_2_4_2 ((U.mks a_1 (kk + 1)).2 + 1 + 1 + 1 + 1 + 1 + 1)).2)).2)).2 at hm10
    have hs10 := mks_snd a_2_6 ((U.mks a_2_5 ((U.mks a_2_4_2 ((U.mks a_1 (kk + 1)).2 + 1 + 1 + 1 + 1 + 1 + 1)).2)).2)
    repeat (first | refine gGP ?_ | refine qO (Q_index_own rfl rfl .ownp rfl TE.h TI.h (by omega) (by rw [List.length_append, List.length_cons]; omega)) ?_ | refine qQ (Q_index_own rfl rfl .ownp rfl TE.h TI.h (by omega) (by rw [List.length_append, List.length_cons]; omega)) ?_)
    refine VR_markcall hm10 rfl rfl .ownp hpl TI.h (by repeat constructor) rfl rfl (by simp) .ownp (by repeat constructor) rfl rfl rfl (by decide) ?_
    refine gGO ?_
    refine ⟨i + 1, by omega, by omega, ⟨rfl, ⟨⟨rfl, rfl⟩, ⟨?_, rfl⟩, ⟨rfl, rfl⟩, trivial⟩, ⟨[], ?_⟩, rfl⟩⟩
    · rw [hn2]; rfl
    · rw [hn1, hpost, List.append_assoc]; rfl
  · refine V_exit ?_
    simp only [decide_eq_false_iff_not] at hc2
    rw [hlen] at hc2
    have hkl : i = us.length := by omega
    subst hkl
    show V _ _ _ _ _
    refine gGO ?_
    refine V_ret ?_
    refine ⟨trivial, ?_, [], ?_⟩
    · show SV.d (.i .i64 (U.mks (us.take us.length) k0).2) = _
      rw [List.take_length]
    · simp only [List.take_length, List.drop_length, List.append_nil]
theorem markMethod_grp (u : U) : (∀ us, u = .sl 11 us → us.length ≤ big → (∀ x ∈ us, wt (.st 10) x) → PMk 128 u) := by
  refine U.ind (M := fun u => (∀ us, u = .sl 11 us → us.length ≤ big → (∀ x ∈ us, wt (.st 10) x) → PMk 128 u)) (fun u ih => ?_) u
  refine ?_
  · rintro us rfl hl hz
    exact markMethodS_step hl hz (fun a_0 a_1 a_2_0 a_2_1 a_2_2 a_2_3 a_2_4_0 a_2_4_1 a_2_4_2 a_2_5 a_2_6 ha => by obtain ⟨_, _, _, hx_a, qa_0, qa_1, qa_2⟩ := inv_Method (hz _ ha); cases hx_a; obtain ⟨_, _, _, _, _, _, _, hx_a_2, qa_2_0, qa_2_1, qa_2_2, qa_2_3, qa_2_4, qa_2_5, qa_2_6⟩ := inv_Expr qa_2; cases hx_a_2; obtain ⟨_, _, _, hx_a_2_4, qa_2_4_0, qa_2_4_1, qa_2_4_2⟩ := inv_Type qa_2_4; cases hx_a_2_4; exact markStringS_all qa_1) (fun a_0 a_1 a_2_0 a_2_1 a_2_2 a_2_3 a_2_4_0 a_2_4_1 a_2_4_2 a_2_5 a_2_6 ha => by obtain ⟨_, _, _, hx_a, qa_0, qa_1, qa_2⟩ := inv_Method (hz _ ha); cases hx_a; obtain ⟨_, _, _, _, _, _, _, hx_a_2, qa_2_0, qa_2_1, qa_2_2, qa_2_3, qa_2_4, qa_2_5, qa_2_6⟩ := inv_Expr qa_2; cases hx_a_2; obtain ⟨_, _, _, hx_a_2_4, qa_2_4_0, qa_2_4_1, qa_2_4_2⟩ := inv_Type qa_2_4; cases hx_a_2_4; exact markTypeS_all qa_2_4_2) (fun a_0 a_1 a_2_0 a_2_1 a_2_2 a_2_3 a_2_4_0 a_2_4_1 a_2_4_2 a_2_5 a_2_6 ha => by obtain ⟨_, _, _, hx_a, qa_0, qa_1, qa_2⟩ := inv_Method (hz _ ha); cases hx_a; obtain ⟨_, _, _, _, _, _, _, hx_a_2, qa_2_0, qa_2_1, qa_2_2, qa_2_3, qa_2_4, qa_2_5, qa_2_6⟩ := inv_Expr qa_2; cases hx_a_2; obtain ⟨_, _, _, hx_a_2_4, qa_2_4_0, qa_2_4_1, qa_2_4_2⟩ := inv_Type qa_2_4; cases hx_a_2_4; exact markExprS_all qa_2_5) (fun a_0 a_1 a_2_0 a_2_1 a_2_2 a_2_3 a_2_4_0 a_2_4_1 a_2_4_2 a_2_5 a_2_6 ha => by obtain ⟨_, _, _, hx_a, qa_0, qa_1, qa_2⟩ := inv_Method (hz _ ha); cases hx_a; obtain ⟨_, _, _, _, _, _, _, hx_a_2, qa_2_0, qa_2_1, qa_2_2, qa_2_3, qa_2_4, qa_2_5, qa_2_6⟩ := inv_Expr qa_2; cases hx_a_2; obtain ⟨_, _, _, hx_a_2_4, qa_2_4_0, qa_2_4_1, qa_2_4_2⟩ := inv_Type qa_2_4; cases hx_a_2_4; exact markArmS_all qa_2_6)
theorem markMethodS_all {us : List U} (h : us.length ≤ big ∧ ∀ x ∈ us, wt (.st 10) x) : PMk 128 (.sl 11 us) := (markMethod_grp (.sl 11 us)) us rfl h.1 h.2
set_option maxRecDepth 8000 in
set_option maxHeartbeats 8000000 in
theorem markInstanceS_step {us : List U} (hl : us.length ≤ big) (hz : ∀ a ∈ us, wt (.st 11) a) (ih0 : ∀ (a_0 : List UInt8) (a_1 : List U) (a_2_0 : Int) (a_2_1 : List UInt8) (a_2_2 : List U) (a_3 : List U) (a_4 : Bool) (a_5 : Bool) (a_6_0 : Int) (a_6_1 : List UInt8) (a_6_2 : List U) (a_7 : List U), .st [.s a_0, .sl 1 a_1, .st [.i .i64 a_2_0, .s a_2_1, .sl 3 a_2_2], .sl 4 a_3, .b a_4, .b a_5, .st [.i .i64 a_6_0, .s a_6_1, .sl 3 a_6_2], .sl 11 a_7] ∈ us → PMk 57 (.sl 1 a_1)) (ih1 : ∀ (a_0 : List UInt8) (a_1 : List U) (a_2_0 : Int) (a_2_1 : List UInt8) (a_2_2 : List U) (a_3 : List U) (a_4 : Bool) (a_5 : Bool) (a_6_0 : Int) (a_6_1 : List UInt8) (a_6_2 : List U) (a_7 : List U), .st [.s a_0, .sl 1 a_1, .st [.i .i64 a_2_0, .s a_2_1, .sl 3 a_2_2], .sl 4 a_3, .b a_4, .b a_5, .st [.i .i64 a_6_0, .s a_6_1, .sl 3 a_6_2], .sl 11 a_7] ∈ us → PMk 61 (.sl 3 a_2_2)) (ih2 : ∀ (a_0 : List UInt8) (a_1 : List U) (a_2_0 : Int) (a_2_1 : List UInt8) (a_2_2 : List U) (a_3 : List U) (a_4 : Bool) (a_5 : Bool) (a_6_0 : Int) (a_6_1 : List UInt8) (a_6_2 : List U) (a_7 : List U), .st [.s a_0, .sl 1 a_1, .st [.i .i64 a_2_0, .s a_2_1, .sl 3 a_2_2], .sl 4 a_3, .b a_4, .b a_5, .st [.i .i64 a_6_0, .s a_6_1, .sl 3 a_6_2], .sl 11 a_7] ∈ us → PMk 58 (.sl 4 a_3)) (ih3 : ∀ (a_0 : List UInt8) (a_1 : List U) (a_2_0 : Int) (a_2_1 : List UInt8) (a_2_2 : List U) (a_3 : List U) (a_4 : Bool) (a_5 : Bool) (a_6_0 : Int) (a_6_1 : List UInt8) (a_6_2 : List U) (a_7 : List U), .st [.s a_0, .sl 1 a_1, .st [.i .i64 a_2_0, .s a_2_1, .sl 3 a_2_2], .sl 4 a_3, .b a_4, .b a_5, .st [.i .i64 a_6_0, .s a_6_1, .sl 3 a_6_2], .sl 11 a_7] ∈ us → PMk 61 (.sl 3 a_6_2)) (ih4 : ∀ (a_0 : List UInt8) (a_1 : List U) (a_2_0 : Int) (a_2_1 : List UInt8) (a_2_2 : List U) (a_3 : List U) (a_4 : Bool) (a_5 : Bool) (a_6_0 : Int) (a_6_1 : List UInt8) (a_6_2 : List U) (a_7 : List U), .st [.s a_0, .sl 1 a_1, .st [.i .i64 a_2_0, .s a_2_1, .sl 3 a_2_2], .sl 4 a_3, .b a_4, .b a_5, .st [.i .i64 a_6_0, .s a_6_1, .sl 3 a_6_2], .sl 11 a_7] ∈ us → PMk 128 (.sl 11 a_7)) : PMk 74 (.sl 12 us) := by
  intro k0 hk0 hk1
  have hlf : (U.sl 12 us).lf = U.lfs us := rfl
  rw [hlf] at hk1
  rw [big_eq] at hl
  show MSpec _ _ _ _ (.sl 12 (U.mks us k0).1) (U.mks us k0).2
  refine MSpec_intro (fun hv e => [.ownp (hv 0) (e 0) 12 us]) (fun hv e => [.ownp (hv 0) (e 0) 12 (U.mks us k0).1]) Tryz.func74 rfl (by kernel_rfl) rfl rfl (fun _ _ => .sl) (fun _ _ => .sl) rfl rfl fun A hv e _ => ?_
  refine gGO ?_
  refine V_block ?_
  refine V_loop (α := Nat)
    (fun i => ⟨[(0, .sl 0 0), (1, .d (.i .i64 (U.mks (us.take i) k0).2)), (5, .d (.i .i64 i))], [.ownp (hv 0) (e 0) 12 ((U.mks (us.take i) k0).1 ++ us.drop i)], Tryz.f74.ntmps⟩)
    (fun i => i ≤ us.length)
    (fun i => us.length - i) 0 ⟨rfl, ⟨⟨rfl, rfl⟩, ⟨rfl, rfl⟩, ⟨rfl, rfl⟩, trivial⟩, ⟨[], rfl⟩, rfl⟩ (by simp) ?_
  intro i hi
  have hlen : ((U.mks (us.take i) k0).1 ++ us.drop i).length = us.length := by simp [mks_len]; omega
  refine gGO ?_
  (first | refine V_cond rfl (fun hc2 => ?_) (fun hc2 => ?_) | refine V_seq (V_cond rfl (fun hc2 => ?_) (fun hc2 => ?_)))
  · refine V_skip ?_
    simp only [decide_eq_true_eq] at hc2
    rw [hlen] at hc2
    have hil : i < us.length := by omega
    obtain ⟨a, hget⟩ : ∃ a, us[i]? = some a := ⟨_, List.getElem?_eq_getElem hil⟩
    have hmem := List.mem_of_getElem? hget
    have hdrop := drop_get hget
    obtain ⟨hn1, hn2⟩ := mks_next hget k0
    have hmid := lfs_mid hget
    have hsnd := mks_snd (us.take i) k0
    have hpl : (U.mks (us.take i) k0).1.length = i := by simp [mks_len]; omega
    have hwa := hz a hmem
    obtain ⟨a_0, a_1, a_2, a_3, a_4, a_5, a_6, a_7, rfl, hwa_0, hwa_1, hwa_2, hwa_3, hwa_6, hwa_7⟩ := inv_Instance hwa
    obtain ⟨a_2_0, a_2_1, a_2_2, rfl, hwa_2_0, hwa_2_1, hwa_2_2⟩ := inv_Type hwa_2
    obtain ⟨a_6_0, a_6_1, a_6_2, rfl, hwa_6_0, hwa_6_1, hwa_6_2⟩ := inv_Type hwa_6
    have hlfa : ((.st [.s a_0, .sl 1 a_1, .st [.i .i64 a_2_0, .s a_2_1, .sl 3 a_2_2], .sl 4 a_3, .b a_4, .b a_5, .st [.i .i64 a_6_0, .s a_6_1, .sl 3 a_6_2], .sl 11 a_7]) : U).lf = 0 + 1 + U.lfs a_1 + 1 + 1 + U.lfs a_2_2 + U.lfs a_3 + 1 + 1 + 1 + 1 + U.lfs a_6_2 + U.lfs a_7 := by simp [U.lf, U.lfs] <;> omega
    rw [hlfa] at hmid
    refine V_cast [.ownp (hv 0) (e 0) 12 ((U.mks (us.take i) k0).1 ++ (.st [.s a_0, .sl 1 a_1, .st [.i .i64 a_2_0, .s a_2_1, .sl 3 a_2_2], .sl 4 a_3, .b a_4, .b a_5, .st [.i .i64 a_6_0, .s a_6_1, .sl 3 a_6_2], .sl 11 a_7]) :: us.drop (i + 1))] (by rw [hdrop]) ?_
    have hkp : 0 < (U.mks (us.take i) k0).2 := by omega
    have hkb : (U.mks (us.take i) k0).2 + (0 + 1 + U.lfs a_1 + 1 + 1 + U.lfs a_2_2 + U.lfs a_3 + 1 + 1 + 1 + 1 + U.lfs a_6_2 + U.lfs a_7 : Nat) ≤ 4611686018427387904 := by omega
    have hlen' : ((U.mks (us.take i) k0).1 ++ (.st [.s a_0, .sl 1 a_1, .st [.i .i64 a_2_0, .s a_2_1, .sl 3 a_2_2], .sl 4 a_3, .b a_4, .b a_5, .st [.i .i64 a_6_0, .s a_6_1, .sl 3 a_6_2], .sl 11 a_7]) :: us.drop (i + 1)).length = us.length := by rw [← hdrop]; exact hlen
    clear hdrop hsnd hlfa hmid hlen
    generalize (U.mks (us.take i) k0).1 = pre at hn1 hpl hlen' ⊢
    generalize (U.mks (us.take i) k0).2 = kk at hn1 hn2 hkp hkb ⊢
    generalize hpost : us.drop (i + 1) = post at hlen' ⊢
    rw [List.length_append, List.length_cons] at hlen'
    refine V_seq (V_block ?_)
    have ht0 := markText_all (kk) (by omega) (by omega)
    repeat (first | refine gGP ?_ | refine qO (Q_index_own rfl rfl .ownp rfl TE.h TI.h (by omega) (by rw [List.length_append, List.length_cons]; omega)) ?_ | refine qQ (Q_index_own rfl rfl .ownp rfl TE.h TI.h (by omega) (by rw [List.length_append, List.length_cons]; omega)) ?_ | refine qO (Q_call rfl ht0 vA) ?_ | refine qQ (Q_call rfl ht0 vA) ?_)
    refine VR_storeF (v := .s (txt (kk))) rfl rfl .ownp hpl rfl rfl TI.h (by repeat constructor) .ownp (by repeat constructor) ?_
    have hm1 := ih0 a_0 a_1 a_2_0 a_2_1 a_2_2 a_3 a_4 a_5 a_6_0 a_6_1 a_6_2 a_7 hmem (kk + 1) (by omega) (by simp only [U.lf]; omega)
    change MSpec _ _ _ _ (.sl 1 (U.mks a_1 (kk + 1)).1) (U.mks a_1 (kk + 1)).2 at hm1
    have hs1 := mks_snd a_1 (kk + 1)
    repeat (first | refine gGP ?_ | refine qO (Q_index_own rfl rfl .ownp rfl TE.h TI.h (by omega) (by rw [List.length_append, List.length_cons]; omega)) ?_ | refine qQ (Q_index_own rfl rfl .ownp rfl TE.h TI.h (by omega) (by rw [List.length_append, List.length_cons]; omega)) ?_)
    refine VR_markcall hm1 rfl rfl .ownp hpl TI.h (by repeat constructor) rfl rfl (by simp) .ownp (by repeat constructor) rfl rfl rfl (by decide) ?_
    repeat (first | refine gGP ?_ | refine qO (Q_index_own rfl rfl .ownp rfl TE.h TI.h (by omega) (by rw [List.length_append, List.length_cons]; omega)) ?_ | refine qQ (Q_index_own rfl rfl .ownp rfl TE.h TI.h (by omega) (by rw [List.length_append, List.length_cons]; omega)) ?_)
    refine VR_storeF (v := .i .i64 ((U.mks a_1 (kk + 1)).2)) rfl rfl .ownp hpl rfl rfl TI.h (by repeat constructor) .ownp (by repeat constructor) ?_
    have ht3 := markText_all ((U.mks a_1 (kk + 1)).2 + 1) (by omega) (by omega)
    repeat (first | refine gGP ?_ | refine qO (Q_index_own rfl rfl .ownp rfl TE.h TI.h (by omega) (by rw [List.length_append, List.length_cons]; omega)) ?_ | refine qQ (Q_index_own rfl rfl .ownp rfl TE.h TI.h (by omega) (by rw [List.length_append, List.length_cons]; omega)) ?_ | refine qO (Q_call rfl ht3 vA) ?_ | refine qQ (Q_call rfl ht3 vA) ?_)
    refine VR_storeF (v := .s (txt ((U.mks a_1 (kk + 1)).2 + 1))) rfl rfl .ownp hpl rfl rfl TI.h (by repeat constructor) .ownp (by repeat constructor) ?_
    have hm4 := ih1 a_0 a_1 a_2_0 a_2_1 a_2_2 a_3 a_4 a_5 a_6_0 a_6_1 a_6_2 a_7 hmem ((U.mks a_1 (kk + 1)).2 + 1 + 1) (by omega) (by simp only [U.lf]; omega)
    change MSpec _ _ _ _ (.sl 3 (U.mks a_2_2 ((U.mks a_1 (kk + 1)).2 + 1 + 1)).1) (U.mks a_2_2 ((U.mks a_1 (kk + 1)).2 + 1 + 1)).2 at hm4
    have hs4 := mks_snd a_2_2 ((U.mks a_1 (kk + 1)).2 + 1 + 1)
    repeat (first | refine gGP ?_ | refine qO (Q_index_own rfl rfl .ownp rfl TE.h TI.h (by omega) (by rw [List.length_append, List.length_cons]; omega)) ?_ | refine qQ (Q_index_own rfl rfl .ownp rfl TE.h TI.h (by omega) (by rw [List.length_append, List.length_cons]; omega)) ?_)
    refine VR_markcall hm4 rfl rfl .ownp hpl TI.h (by repeat constructor) rfl rfl (by simp) .ownp (by repeat constructor) rfl rfl rfl (by decide) ?_
    have hm5 := ih2 a_0 a_1 a_2_0 a_2_1 a_2_2 a_3 a_4 a_5 a_6_0 a_6_1 a_6_2 a_7 hmem ((U.mks a_2_2 ((U.mks a_1 (kk + 1)).2 + 1 + 1)).2) (by omega) (by simp only [U.lf]; omega)
    change MSpec _ _ _ _ (.sl 4 (U.mks a_3 ((U.mks a_2_2 ((U.mks a_1 (kk + 1)).2 + 1 + 1)).2)).1) (U.mks a_3 ((U.mks a_2_2 ((U.mks a_1 (kk + 1)).2 + 1 + 1)).2)).2 at hm5
    have hs5 := mks_snd a_3 ((U.mks a_2_2 ((U.mks a_1 (kk + 1)).2 + 1 + 1)).2)
    repeat (first | refine gGP ?_ | refine qO (Q_index_own rfl rfl .ownp rfl TE.h TI.h (by omega) (by rw [List.length_append, List.length_cons]; omega)) ?_ | refine qQ (Q_index_own rfl rfl .ownp rfl TE.h TI.h (by omega) (by rw [List.length_append, List.length_cons]; omega)) ?_)
    refine VR_markcall hm5 rfl rfl .ownp hpl TI.h (by repeat constructor) rfl rfl (by simp) .ownp (by repeat constructor) rfl rfl rfl (by decide) ?_
    repeat (first | refine gGP ?_ | refine qO (Q_index_own rfl rfl .ownp rfl TE.h TI.h (by omega) (by rw [List.length_append, List.length_cons]; omega)) ?_ | refine qQ (Q_index_own rfl rfl .ownp rfl TE.h TI.h (by omega) (by rw [List.length_append, List.length_cons]; omega)) ?_ | refine qO (Q_remI (m := (U.mks a_3 ((U.mks a_2_2 ((U.mks a_1 (kk + 1)).2 + 1 + 1)).2)).2) (by omega)) ?_ | refine qQ (Q_remI (m := (U.mks a_3 ((U.mks a_2_2 ((U.mks a_1 (kk + 1)).2 + 1 + 1)).2)).2) (by omega)) ?_)
    refine VR_storeF (v := .b (((U.mks a_3 ((U.mks a_2_2 ((U.mks a_1 (kk + 1)).2 + 1 + 1)).2)).2) % 3 == 0)) rfl rfl .ownp hpl rfl rfl TI.h (by repeat constructor) .ownp (by repeat constructor) ?_
    repeat (first | refine gGP ?_ | refine qO (Q_index_own rfl rfl .ownp rfl TE.h TI.h (by omega) (by rw [List.length_append, List.length_cons]; omega)) ?_ | refine qQ (Q_index_own rfl rfl .ownp rfl TE.h TI.h (by omega) (by rw [List.length_append, List.length_cons]; omega)) ?_ | refine qO (Q_remI (m := (U.mks a_3 ((U.mks a_2_2 ((U.mks a_1 (kk + 1)).2 + 1 + 1)).2)).2 + 1) (by omega)) ?_ | refine qQ (Q_remI (m := (U.mks a_3 ((U.mks a_2_2 ((U.mks a_1 (kk + 1)).2 + 1 + 1)).2)).2 + 1) (by omega)) ?_)
    refine VR_storeF (v := .b (((U.mks a_3 ((U.mks a_2_2 ((U.mks a_1 (kk + 1)).2 + 1 + 1)).2)).2 + 1) % 3 == 0)) rfl rfl .ownp hpl rfl rfl TI.h (by repeat constructor) .ownp (by repeat constructor) ?_
    repeat (first | refine gGP ?_ | refine qO (Q_index_own rfl rfl .ownp rfl TE.h TI.h (by omega) (by rw [List.length_append, List.length_cons]; omega)) ?_ | refine qQ (Q_index_own rfl rfl .ownp rfl TE.h TI.h (by omega) (by rw [List.length_append, List.length_cons]; omega)) ?_)
    refine VR_storeF (v := .i .i64 ((U.mks a_3 ((U.mks a_2_2 ((U.mks a_1 (kk + 1)).2 + 1 + 1)).2)).2 + 1 + 1)) rfl rfl .ownp hpl rfl rfl TI.h (by repeat constructor) .ownp (by repeat constructor) ?_
    have ht9 := markText_all ((U.mks a_3 ((U.mks a_2_2 ((U.mks a_1 (kk + 1)).2 + 1 + 1)).2)).2 + 1 + 1 + 1) (by omega) (by omega)
    repeat (first | refine gGP ?_ | refine qO (Q_index_own rfl rfl .ownp rfl TE.h TI.h (by omega) (by rw [List.length_append, List.length_cons]; omega)) ?_ | refine qQ (Q_index_own rfl rfl .ownp rfl TE.h TI.h (by omega) (by rw [List.length_append, List.length_cons]; omega)) ?_ | refine qO (Q_call rfl ht9 vA) ?_ | refine qQ (Q_call rfl ht9 vA) ?_)
    refine VR_storeF (v := .s (txt ((U.mks a_3 ((U.mks a_2_2 ((U.mks a_1 (kk + 1)).2 + 1 + 1)).2)).2 + 1 + 1 + 1))) rfl rfl .ownp hpl rfl rfl TI.h (by repeat constructor) .ownp (by repeat constructor) ?_
    have hm10 := ih3 a_0 a_1 a_2_0 a_2_1 a_2_2 a_3 a_4 a_5 a_6_0 a_6_1 a_6_2 a_7 hmem ((U.mks a_3 ((U.mks a_2_2 ((U.mks a_1 (kk + 1)).2 + 1 + 1)).2)).2 + 1 + 1 + 1 + 1) (by omega) (by simp only [U.lf]; omega)
    change MSpec _ _ _ _ (.sl 3 (U.mks a_6_2 ((U.mks a_3 ((U.mks a_2_2 ((U.mks a_1 (kk + 1)).2 + 1 + 1)).2)).2 + 1 + 1 + 1 + 1)).1) (U.mks a_6_2 ((U.mks a_3 ((U.mks a_2_2 ((U.mks a_1 (kk + 1)).2 + 1 + 1)).2)).2 + 1 + 1 + 1 + 1)).2 at hm10
    have hs10 := mks_snd a_6_2 ((U.mks a_3 ((U.mks a_2_2 ((U.mks a_1 (kk + 1)).2 + 1 + 1)).2)).2 + 1 + 1 + 1 + 1)
    repeat (first | refine gGP ?_ | refine qO (Q_index_own rfl rfl .ownp rfl TE.h TI.h (by omega) (by rw [List.length_append, List.length_cons]; omega)) ?_ | refine qQ (Q_index_own rfl rfl .ownp rfl TE.h TI.h (by omega) (by rw [List.length_append, List.length_cons]; omega)) ?_)
    refine VR_markcall hm10 rfl rfl .ownp hpl TI.h (by repeat constructor) rfl rfl (by simp) .ownp (by repeat constructor) rfl rfl rfl (by decide) ?_
    have hm11 := ih4 a_0 a_1 a_2_0 a_2_1 a_2_2 a_3 a_4 a_5 a_6_0 a_6_1 a_6_2 a_7 hmem ((U.mks a_6_2 ((U.mks a_3 ((U.mks a_2_2 ((U.mks a_1 (kk + 1)).2 + 1 + 1)).2)).2 + 1 + 1 + 1 + 1)).2) (by omega) (by simp only [U.lf]; omega)
    change MSpec _ _ _ _ (.sl 11 (U.mks a_7 ((U.mks a_6_2 ((U.mks a_3 ((U.mks a_2_2 ((U.mks a_1 (kk + 1)).2 + 1 + 1)).2)).2 + 1 + 1 + 1 + 1)).2)).1) (U.mks a_7 ((U.mks a_6_2 ((U.mks a_3 ((U.mks a_2_2 ((U.mks a_1 (kk + 1)).2 + 1 + 1)).2)).2 + 1 + 1 + 1 + 1)).2)).2 at hm11
    have hs11 := mks_snd a_7 ((U.mks a_6_2 ((U.mks a_3 ((U.mks a_2_2 ((U.mks a_1 (kk + 1)).2 + 1 + 1)).2)).2 + 1 + 1 + 1 + 1)).2)
    repeat (first | refine gGP ?_ | refine qO (Q_index_own rfl rfl .ownp rfl TE.h TI.h (by omega) (by rw [List.length_append, List.length_cons]; omega)) ?_ | refine qQ (Q_index_own rfl rfl .ownp rfl TE.h TI.h (by omega) (by rw [List.length_append, List.length_cons]; omega)) ?_)
    refine VR_markcall hm11 rfl rfl .ownp hpl TI.h (by repeat constructor) rfl rfl (by simp) .ownp (by repeat constructor) rfl rfl rfl (by decide) ?_
    refine gGO ?_
    refine ⟨i + 1, by omega, by omega, ⟨rfl, ⟨⟨rfl, rfl⟩, ⟨?_, rfl⟩, ⟨rfl, rfl⟩, trivial⟩, ⟨[], ?_⟩, rfl⟩⟩
    · rw [hn2]; rfl
    · rw [hn1, hpost, List.append_assoc]; rfl
  · refine V_exit ?_
    simp only [decide_eq_false_iff_not] at hc2
    rw [hlen] at hc2
    have hkl : i = us.length := by omega
    subst hkl
    show V _ _ _ _ _
    refine gGO ?_
    refine V_ret ?_
    refine ⟨trivial, ?_, [], ?_⟩
    · show SV.d (.i .i64 (U.mks (us.take us.length) k0).2) = _
      rw [List.take_length]
    · simp only [List.take_length, List.drop_length, List.append_nil]
theorem markInstance_grp (u : U) : (∀ us, u = .sl 12 us → us.length ≤ big → (∀ x ∈ us, wt (.st 11) x) → PMk 74 u) := by
  refine U.ind (M := fun u => (∀ us, u = .sl 12 us → us.length ≤ big → (∀ x ∈ us, wt (.st 11) x) → PMk 74 u)) (fun u ih => ?_) u
  refine ?_
  · rintro us rfl hl hz
    exact markInstanceS_step hl hz (fun a_0 a_1 a_2_0 a_2_1 a_2_2 a_3 a_4 a_5 a_6_0 a_6_1 a_6_2 a_7 ha => by obtain ⟨_, _, _, _, _, _, _, _, hx_a, qa_0, qa_1, qa_2, qa_3, qa_6, qa_7⟩ := inv_Instance (hz _ ha); cases hx_a; obtain ⟨_, _, _, hx_a_2, qa_2_0, qa_2_1, qa_2_2⟩ := inv_Type qa_2; cases hx_a_2; obtain ⟨_, _, _, hx_a_6, qa_6_0, qa_6_1, qa_6_2⟩ := inv_Type qa_6; cases hx_a_6; exact markStringS_all qa_1) (fun a_0 a_1 a_2_0 a_2_1 a_2_2 a_3 a_4 a_5 a_6_0 a_6_1 a_6_2 a_7 ha => by obtain ⟨_, _, _, _, _, _, _, _, hx_a, qa_0, qa_1, qa_2, qa_3, qa_6, qa_7⟩ := inv_Instance (hz _ ha); cases hx_a; obtain ⟨_, _, _, hx_a_2, qa_2_0, qa_2_1, qa_2_2⟩ := inv_Type qa_2; cases hx_a_2; obtain ⟨_, _, _, hx_a_6, qa_6_0, qa_6_1, qa_6_2⟩ := inv_Type qa_6; cases hx_a_6; exact markTypeS_all qa_2_2) (fun a_0 a_1 a_2_0 a_2_1 a_2_2 a_3 a_4 a_5 a_6_0 a_6_1 a_6_2 a_7 ha => by obtain ⟨_, _, _, _, _, _, _, _, hx_a, qa_0, qa_1, qa_2, qa_3, qa_6, qa_7⟩ := inv_Instance (hz _ ha); cases hx_a; obtain ⟨_, _, _, hx_a_2, qa_2_0, qa_2_1, qa_2_2⟩ := inv_Type qa_2; cases hx_a_2; obtain ⟨_, _, _, hx_a_6, qa_6_0, qa_6_1, qa_6_2⟩ := inv_Type qa_6; cases hx_a_6; exact markBoundS_all qa_3) (fun a_0 a_1 a_2_0 a_2_1 a_2_2 a_3 a_4 a_5 a_6_0 a_6_1 a_6_2 a_7 ha => by obtain ⟨_, _, _, _, _, _, _, _, hx_a, qa_0, qa_1, qa_2, qa_3, qa_6, qa_7⟩ := inv_Instance (hz _ ha); cases hx_a; obtain ⟨_, _, _, hx_a_2, qa_2_0, qa_2_1, qa_2_2⟩ := inv_Type qa_2; cases hx_a_2; obtain ⟨_, _, _, hx_a_6, qa_6_0, qa_6_1, qa_6_2⟩ := inv_Type qa_6; cases hx_a_6; exact markTypeS_all qa_6_2) (fun a_0 a_1 a_2_0 a_2_1 a_2_2 a_3 a_4 a_5 a_6_0 a_6_1 a_6_2 a_7 ha => by obtain ⟨_, _, _, _, _, _, _, _, hx_a, qa_0, qa_1, qa_2, qa_3, qa_6, qa_7⟩ := inv_Instance (hz _ ha); cases hx_a; obtain ⟨_, _, _, hx_a_2, qa_2_0, qa_2_1, qa_2_2⟩ := inv_Type qa_2; cases hx_a_2; obtain ⟨_, _, _, hx_a_6, qa_6_0, qa_6_1, qa_6_2⟩ := inv_Type qa_6; cases hx_a_6; exact markMethodS_all qa_7)
theorem markInstanceS_all {us : List U} (h : us.length ≤ big ∧ ∀ x ∈ us, wt (.st 11) x) : PMk 74 (.sl 12 us) := (markInstance_grp (.sl 12 us)) us rfl h.1 h.2
set_option maxRecDepth 8000 in
set_option maxHeartbeats 8000000 in
theorem markParamS_step {us : List U} (hl : us.length ≤ big) (hz : ∀ a ∈ us, wt (.st 12) a) (ih0 : ∀ (a_0 : List UInt8) (a_1_0 : Int) (a_1_1 : List UInt8) (a_1_2 : List U), .st [.s a_0, .st [.i .i64 a_1_0, .s a_1_1, .sl 3 a_1_2]] ∈ us → PMk 61 (.sl 3 a_1_2)) : PMk 59 (.sl 4 us) := by
  intro k0 hk0 hk1
  have hlf : (U.sl 4 us).lf = U.lfs us := rfl
  rw [hlf] at hk1
  rw [big_eq] at hl
  show MSpec _ _ _ _ (.sl 4 (U.mks us k0).1) (U.mks us k0).2
  refine MSpec_intro (fun hv e => [.ownp (hv 0) (e 0) 4 us]) (fun hv e => [.ownp (hv 0) (e 0) 4 (U.mks us k0).1]) Tryz.func59 rfl (by kernel_rfl) rfl rfl (fun _ _ => .sl) (fun _ _ => .sl) rfl rfl fun A hv e _ => ?_
  refine gGO ?_
  refine V_block ?_
  refine V_loop (α := Nat)
    (fun i => ⟨[(0, .sl 0 0), (1, .d (.i .i64 (U.mks (us.take i) k0).2)), (5, .d (.i .i64 i))], [.ownp (hv 0) (e 0) 4 ((U.mks (us.take i) k0).1 ++ us.drop i)], Tryz.f59.ntmps⟩)
    (fun i => i ≤ us.length)
    (fun i => us.length - i) 0 ⟨rfl, ⟨⟨rfl, rfl⟩, ⟨rfl, rfl⟩, ⟨rfl, rfl⟩, trivial⟩, ⟨[], rfl⟩, rfl⟩ (by simp) ?_
  intro i hi
  have hlen : ((U.mks (us.take i) k0).1 ++ us.drop i).length = us.length := by simp [mks_len]; omega
  refine gGO ?_
  (first | refine V_cond rfl (fun hc2 => ?_) (fun hc2 => ?_) | refine V_seq (V_cond rfl (fun hc2 => ?_) (fun hc2 => ?_)))
  · refine V_skip ?_
    simp only [decide_eq_true_eq] at hc2
    rw [hlen] at hc2
    have hil : i < us.length := by omega
    obtain ⟨a, hget⟩ : ∃ a, us[i]? = some a := ⟨_, List.getElem?_eq_getElem hil⟩
    have hmem := List.mem_of_getElem? hget
    have hdrop := drop_get hget
    obtain ⟨hn1, hn2⟩ := mks_next hget k0
    have hmid := lfs_mid hget
    have hsnd := mks_snd (us.take i) k0
    have hpl : (U.mks (us.take i) k0).1.length = i := by simp [mks_len]; omega
    have hwa := hz a hmem
    obtain ⟨a_0, a_1, rfl, hwa_0, hwa_1⟩ := inv_Param hwa
    obtain ⟨a_1_0, a_1_1, a_1_2, rfl, hwa_1_0, hwa_1_1, hwa_1_2⟩ := inv_Type hwa_1
    have hlfa : ((.st [.s a_0, .st [.i .i64 a_1_0, .s a_1_1, .sl 3 a_1_2]]) : U).lf = 0 + 1 + 1 + 1 + U.lfs a_1_2 := by simp [U.lf, U.lfs] <;> omega
    rw [hlfa] at hmid
    refine V_cast [.ownp (hv 0) (e 0) 4 ((U.mks (us.take i) k0).1 ++ (.st [.s a_0, .st [.i .i64 a_1_0, .s a_1_1, .sl 3 a_1_2]]) :: us.drop (i + 1))] (by rw [hdrop]) ?_
    have hkp : 0 < (U.mks (us.take i) k0).2 := by omega
    have hkb : (U.mks (us.take i) k0).2 + (0 + 1 + 1 + 1 + U.lfs a_1_2 : Nat) ≤ 4611686018427387904 := by omega
    have hlen' : ((U.mks (us.take i) k0).1 ++ (.st [.s a_0, .st [.i .i64 a_1_0, .s a_1_1, .sl 3 a_1_2]]) :: us.drop (i + 1)).length = us.length := by rw [← hdrop]; exact hlen
    clear hdrop hsnd hlfa hmid hlen
    generalize (U.mks (us.take i) k0).1 = pre at hn1 hpl hlen' ⊢
    generalize (U.mks (us.take i) k0).2 = kk at hn1 hn2 hkp hkb ⊢
    generalize hpost : us.drop (i + 1) = post at hlen' ⊢
    rw [List.length_append, List.length_cons] at hlen'
    refine V_seq (V_block ?_)
    have ht0 := markText_all (kk) (by omega) (by omega)
    repeat (first | refine gGP ?_ | refine qO (Q_index_own rfl rfl .ownp rfl TE.h TI.h (by omega) (by rw [List.length_append, List.length_cons]; omega)) ?_ | refine qQ (Q_index_own rfl rfl .ownp rfl TE.h TI.h (by omega) (by rw [List.length_append, List.length_cons]; omega)) ?_ | refine qO (Q_call rfl ht0 vA) ?_ | refine qQ (Q_call rfl ht0 vA) ?_)
    refine VR_storeF (v := .s (txt (kk))) rfl rfl .ownp hpl rfl rfl TI.h (by repeat constructor) .ownp (by repeat constructor) ?_
    repeat (first | refine gGP ?_ | refine qO (Q_index_own rfl rfl .ownp rfl TE.h TI.h (by omega) (by rw [List.length_append, List.length_cons]; omega)) ?_ | refine qQ (Q_index_own rfl rfl .ownp rfl TE.h TI.h (by omega) (by rw [List.length_append, List.length_cons]; omega)) ?_)
    refine VR_storeF (v := .i .i64 (kk + 1)) rfl rfl .ownp hpl rfl rfl TI.h (by repeat constructor) .ownp (by repeat constructor) ?_
    have ht2 := markText_all (kk + 1 + 1) (by omega) (by omega)
    repeat (first | refine gGP ?_ | refine qO (Q_index_own rfl rfl .ownp rfl TE.h TI.h (by omega) (by rw [List.length_append, List.length_cons]; omega)) ?_ | refine qQ (Q_index_own rfl rfl .ownp rfl TE.h TI.h (by omega) (by rw [List.length_append, List.length_cons]; omega)) ?_ | refine qO (Q_call rfl ht2 vA) ?_ | refine qQ (Q_call rfl ht2 vA) ?_)
    refine VR_storeF (v := .s (txt (kk + 1 + 1))) rfl rfl .ownp hpl rfl rfl TI.h (by repeat constructor) .ownp (by repeat constructor) ?_
    have hm3 := ih0 a_0 a_1_0 a_1_1 a_1_2 hmem (kk + 1 + 1 + 1) (by omega) (by simp only [U.lf]; omega)
    change MSpec _ _ _ _ (.sl 3 (U.mks a_1_2 (kk + 1 + 1 + 1)).1) (U.mks a_1_2 (kk + 1 + 1 + 1)).2 at hm3
    have hs3 := mks_snd a_1_2 (kk + 1 + 1 + 1)
    repeat (first | refine gGP ?_ | refine qO (Q_index_own rfl rfl .ownp rfl TE.h TI.h (by omega) (by rw [List.length_append, List.length_cons]; omega)) ?_ | refine qQ (Q_index_own rfl rfl .ownp rfl TE.h TI.h (by omega) (by rw [List.length_append, List.length_cons]; omega)) ?_)
    refine VR_markcall hm3 rfl rfl .ownp hpl TI.h (by repeat constructor) rfl rfl (by simp) .ownp (by repeat constructor) rfl rfl rfl (by decide) ?_
    refine gGO ?_
    refine ⟨i + 1, by omega, by omega, ⟨rfl, ⟨⟨rfl, rfl⟩, ⟨?_, rfl⟩, ⟨rfl, rfl⟩, trivial⟩, ⟨[], ?_⟩, rfl⟩⟩
    · rw [hn2]; rfl
    · rw [hn1, hpost, List.append_assoc]; rfl
  · refine V_exit ?_
    simp only [decide_eq_false_iff_not] at hc2
    rw [hlen] at hc2
    have hkl : i = us.length := by omega
    subst hkl
    show V _ _ _ _ _
    refine gGO ?_
    refine V_ret ?_
    refine ⟨trivial, ?_, [], ?_⟩
    · show SV.d (.i .i64 (U.mks (us.take us.length) k0).2) = _
      rw [List.take_length]
    · simp only [List.take_length, List.drop_length, List.append_nil]
theorem markParam_grp (u : U) : (∀ us, u = .sl 4 us → us.length ≤ big → (∀ x ∈ us, wt (.st 12) x) → PMk 59 u) := by
  refine U.ind (M := fun u => (∀ us, u = .sl 4 us → us.length ≤ big → (∀ x ∈ us, wt (.st 12) x) → PMk 59 u)) (fun u ih => ?_) u
  refine ?_
  · rintro us rfl hl hz
    exact markParamS_step hl hz (fun a_0 a_1_0 a_1_1 a_1_2 ha => by obtain ⟨_, _, hx_a, qa_0, qa_1⟩ := inv_Param (hz _ ha); cases hx_a; obtain ⟨_, _, _, hx_a_1, qa_1_0, qa_1_1, qa_1_2⟩ := inv_Type qa_1; cases hx_a_1; exact markTypeS_all qa_1_2)
theorem markParamS_all {us : List U} (h : us.length ≤ big ∧ ∀ x ∈ us, wt (.st 12) x) : PMk 59 (.sl 4 us) := (markParam_grp (.sl 4 us)) us rfl h.1 h.2
set_option maxRecDepth 8000 in
set_option maxHeartbeats 8000000 in
theorem markFunctionS_step {us : List U} (hl : us.length ≤ big) (hz : ∀ a ∈ us, wt (.st 13) a) (ih0 : ∀ (a_0 : List UInt8) (a_1 : List U) (a_2 : List U) (a_3 : List U) (a_4_0 : Int) (a_4_1 : List UInt8) (a_4_2 : List U) (a_5_0 : Int) (a_5_1 : List UInt8) (a_5_2 : List UInt8) (a_5_3 : Int) (a_5_4_0 : Int) (a_5_4_1 : List UInt8) (a_5_4_2 : List U) (a_5_5 : List U) (a_5_6 : List U), .st [.s a_0, .sl 1 a_1, .sl 4 a_2, .sl 4 a_3, .st [.i .i64 a_4_0, .s a_4_1, .sl 3 a_4_2], .st [.i .i64 a_5_0, .s a_5_1, .s a_5_2, .i .i64 a_5_3, .st [.i .i64 a_5_4_0, .s a_5_4_1, .sl 3 a_5_4_2], .sl 9 a_5_5, .sl 11 a_5_6]] ∈ us → PMk 57 (.sl 1 a_1)) (ih1 : ∀ (a_0 : List UInt8) (a_1 : List U) (a_2 : List U) (a_3 : List U) (a_4_0 : Int) (a_4_1 : List UInt8) (a_4_2 : List U) (a_5_0 : Int) (a_5_1 : List UInt8) (a_5_2 : List UInt8) (a_5_3 : Int) (a_5_4_0 : Int) (a_5_4_1 : List UInt8) (a_5_4_2 : List U) (a_5_5 : List U) (a_5_6 : List U), .st [.s a_0, .sl 1 a_1, .sl 4 a_2, .sl 4 a_3, .st [.i .i64 a_4_0, .s a_4_1, .sl 3 a_4_2], .st [.i .i64 a_5_0, .s a_5_1, .s a_5_2, .i .i64 a_5_3, .st [.i .i64 a_5_4_0, .s a_5_4_1, .sl 3 a_5_4_2], .sl 9 a_5_5, .sl 11 a_5_6]] ∈ us → PMk 58 (.sl 4 a_2)) (ih2 : ∀ (a_0 : List UInt8) (a_1 : List U) (a_2 : List U) (a_3 : List U) (a_4_0 : Int) (a_4_1 : List UInt8) (a_4_2 : List U) (a_5_0 : Int) (a_5_1 : List UInt8) (a_5_2 : List UInt8) (a_5_3 : Int) (a_5_4_0 : Int) (a_5_4_1 : List UInt8) (a_5_4_2 : List U) (a_5_5 : List U) (a_5_6 : List U), .st [.s a_0, .sl 1 a_1, .sl 4 a_2, .sl 4 a_3, .st [.i .i64 a_4_0, .s a_4_1, .sl 3 a_4_2], .st [.i .i64 a_5_0, .s a_5_1, .s a_5_2, .i .i64 a_5_3, .st [.i .i64 a_5_4_0, .s a_5_4_1, .sl 3 a_5_4_2], .sl 9 a_5_5, .sl 11 a_5_6]] ∈ us → PMk 59 (.sl 4 a_3)) (ih3 : ∀ (a_0 : List UInt8) (a_1 : List U) (a_2 : List U) (a_3 : List U) (a_4_0 : Int) (a_4_1 : List UInt8) (a_4_2 : List U) (a_5_0 : Int) (a_5_1 : List UInt8) (a_5_2 : List UInt8) (a_5_3 : Int) (a_5_4_0 : Int) (a_5_4_1 : List UInt8) (a_5_4_2 : List U) (a_5_5 : List U) (a_5_6 : List U), .st [.s a_0, .sl 1 a_1, .sl 4 a_2, .sl 4 a_3, .st [.i .i64 a_4_0, .s a_4_1, .sl 3 a_4_2], .st [.i .i64 a_5_0, .s a_5_1, .s a_5_2, .i .i64 a_5_3, .st [.i .i64 a_5_4_0, .s a_5_4_1, .sl 3 a_5_4_2], .sl 9 a_5_5, .sl 11 a_5_6]] ∈ us → PMk 61 (.sl 3 a_4_2)) (ih4 : ∀ (a_0 : List UInt8) (a_1 : List U) (a_2 : List U) (a_3 : List U) (a_4_0 : Int) (a_4_1 : List UInt8) (a_4_2 : List U) (a_5_0 : Int) (a_5_1 : List UInt8) (a_5_2 : List UInt8) (a_5_3 : Int) (a_5_4_0 : Int) (a_5_4_1 : List UInt8) (a_5_4_2 : List U) (a_5_5 : List U) (a_5_6 : List U), .st [.s a_0, .sl 1 a_1, .sl 4 a_2, .sl 4 a_3, .st [.i .i64 a_4_0, .s a_4_1, .sl 3 a_4_2], .st [.i .i64 a_5_0, .s a_5_1, .s a_5_2, .i .i64 a_5_3, .st [.i .i64 a_5_4_0, .s a_5_4_1, .sl 3 a_5_4_2], .sl 9 a_5_5, .sl 11 a_5_6]] ∈ us → PMk 61 (.sl 3 a_5_4_2)) (ih5 : ∀ (a_0 : List UInt8) (a_1 : List U) (a_2 : List U) (a_3 : List U) (a_4_0 : Int) (a_4_1 : List UInt8) (a_4_2 : List U) (a_5_0 : Int) (a_5_1 : List UInt8) (a_5_2 : List UInt8) (a_5_3 : Int) (a_5_4_0 : Int) (a_5_4_1 : List UInt8) (a_5_4_2 : List U) (a_5_5 : List U) (a_5_6 : List U), .st [.s a_0, .sl 1 a_1, .sl 4 a_2, .sl 4 a_3, .st [.i .i64 a_4_0, .s a_4_1, .sl 3 a_4_2], .st [.i .i64 a_5_0, .s a_5_1, .s a_5_2, .i .i64 a_5_3, .st [.i .i64 a_5_4_0, .s a_5_4_1, .sl 3 a_5_4_2], .sl 9 a_5_5, .sl 11 a_5_6]] ∈ us → PMk 129 (.sl 9 a_5_5)) (ih6 : ∀ (a_0 : List UInt8) (a_1 : List U) (a_2 : List U) (a_3 : List U) (a_4_0 : Int) (a_4_1 : List UInt8) (a_4_2 : List U) (a_5_0 : Int) (a_5_1 : List UInt8) (a_5_2 : List UInt8) (a_5_3 : Int) (a_5_4_0 : Int) (a_5_4_1 : List UInt8) (a_5_4_2 : List U) (a_5_5 : List U) (a_5_6 : List U), .st [.s a_0, .sl 1 a_1, .sl 4 a_2, .sl 4 a_3, .st [.i .i64 a_4_0, .s a_4_1, .sl 3 a_4_2], .st [.i .i64 a_5_0, .s a_5_1, .s a_5_2, .i .i64 a_5_3, .st [.i .i64 a_5_4_0, .s a_5_4_1, .sl 3 a_5_4_2], .sl 9 a_5_5, .sl 11 a_5_6]] ∈ us → PMk 130 (.sl 11 a_5_6)) : PMk 75 (.sl 16 us) := by
  intro k0 hk0 hk1
  have hlf : (U.sl 16 us).lf = U.lfs us := rfl
  rw [hlf] at hk1
  rw [big_eq] at hl
  show MSpec _ _ _ _ (.sl 16 (U.mks us k0).1) (U.mks us k0).2
  refine MSpec_intro (fun hv e => [.ownp (hv 0) (e 0) 16 us]) (fun hv e => [.ownp (hv 0) (e 0) 16 (U.mks us k0).1]) Tryz.func75 rfl (by kernel_rfl) rfl rfl (fun _ _ => .sl) (fun _ _ => .sl) rfl rfl fun A hv e _ => ?_
  refine gGO ?_
  refine V_block ?_
  refine V_loop (α := Nat)
    (fun i => ⟨[(0, .sl 0 0), (1, .d (.i .i64 (U.mks (us.take i) k0).2)), (5, .d (.i .i64 i))], [.ownp (hv 0) (e 0) 16 ((U.mks (us.take i) k0).1 ++ us.drop i)], Tryz.f75.ntmps⟩)
    (fun i => i ≤ us.length)
    (fun i => us.length - i) 0 ⟨rfl, ⟨⟨rfl, rfl⟩, ⟨rfl, rfl⟩, ⟨rfl, rfl⟩, trivial⟩, ⟨[], rfl⟩, rfl⟩ (by simp) ?_
  intro i hi
  have hlen : ((U.mks (us.take i) k0).1 ++ us.drop i).length = us.length := by simp [mks_len]; omega
  refine gGO ?_
  (first | refine V_cond rfl (fun hc2 => ?_) (fun hc2 => ?_) | refine V_seq (V_cond rfl (fun hc2 => ?_) (fun hc2 => ?_)))
  · refine V_skip ?_
    simp only [decide_eq_true_eq] at hc2
    rw [hlen] at hc2
    have hil : i < us.length := by omega
    obtain ⟨a, hget⟩ : ∃ a, us[i]? = some a := ⟨_, List.getElem?_eq_getElem hil⟩
    have hmem := List.mem_of_getElem? hget
    have hdrop := drop_get hget
    obtain ⟨hn1, hn2⟩ := mks_next hget k0
    have hmid := lfs_mid hget
    have hsnd := mks_snd (us.take i) k0
    have hpl : (U.mks (us.take i) k0).1.length = i := by simp [mks_len]; omega
    have hwa := hz a hmem
    obtain ⟨a_0, a_1, a_2, a_3, a_4, a_5, rfl, hwa_0, hwa_1, hwa_2, hwa_3, hwa_4, hwa_5⟩ := inv_Function hwa
    obtain ⟨a_4_0, a_4_1, a_4_2, rfl, hwa_4_0, hwa_4_1, hwa_4_2⟩ := inv_Type hwa_4
    obtain ⟨a_5_0, a_5_1, a_5_2, a_5_3, a_5_4, a_5_5, a_5_6, rfl, hwa_5_0, hwa_5_1, hwa_5_2, hwa_5_3, hwa_5_4, hwa_5_5, hwa_5_6⟩ := inv_Expr hwa_5
    obtain ⟨a_5_4_0, a_5_4_1, a_5_4_2, rfl, hwa_5_4_0, hwa_5_4_1, hwa_5_4_2⟩ := inv_Type hwa_5_4
    have hlfa : ((.st [.s a_0, .sl 1 a_1, .sl 4 a_2, .sl 4 a_3, .st [.i .i64 a_4_0, .s a_4_1, .sl 3 a_4_2], .st [.i .i64 a_5_0, .s a_5_1, .s a_5_2, .i .i64 a_5_3, .st [.i .i64 a_5_4_0, .s a_5_4_1, .sl 3 a_5_4_2], .sl 9 a_5_5, .sl 11 a_5_6]]) : U).lf = 0 + 1 + U.lfs a_1 + U.lfs a_2 + U.lfs a_3 + 1 + 1 + U.lfs a_4_2 + 1 + 1 + 1 + 1 + 1 + 1 + U.lfs a_5_4_2 + U.lfs a_5_5 + U.lfs a_5_6 := by simp [U.lf, U.lfs] <;> omega
    rw [hlfa] at hmid
    refine V_cast [.ownp (hv 0) (e 0) 16 ((U.mks (us.take i) k0).1 ++ (.st [.s a_0, .sl 1 a_1, .sl 4 a_2, .sl 4 a_3, .st [.i .i64 a_4_0, .s a_4_1, .sl 3 a_4_2], .st [.i .i64 a_5_0, .s a_5_1, .s a_5_2, .i .i64 a_5_3, .st [.i .i64 a_5_4_0, .s a_5_4_1, .sl 3 a_5_4_2], .sl 9 a_5_5, .sl 11 a_5_6]]) :: us.drop (i + 1))] (by rw [hdrop]) ?_
    have hkp : 0 < (U.mks (us.take i) k0).2 := by omega
    have hkb : (U.mks (us.take i) k0).2 + (0 + 1 + U.lfs a_1 + U.lfs a_2 + U.lfs a_3 + 1 + 1 + U.lfs a_4_2 + 1 + 1 + 1 + 1 + 1 + 1 + U.lfs a_5_4_2 + U.lfs a_5_5 + U.lfs a_5_6 : Nat) ≤ 4611686018427387904 := by omega
    have hlen' : ((U.mks (us.take i) k0).1 ++ (.st [.s a_0, .sl 1 a_1, .sl 4 a_2, .sl 4 a_3, .st [.i .i64 a_4_0, .s a_4_1, .sl 3 a_4_2], .st [.i .i64 a_5_0, .s a_5_1, .s a_5_2, .i .i64 a_5_3, .st [.i .i64 a_5_4_0, .s a_5_4_1, .sl 3 a_5_4_2], .sl 9 a_5_5, .sl 11 a_5_6]]) :: us.drop (i + 1)).length = us.length := by rw [← hdrop]; exact hlen
    clear hdrop hsnd hlfa hmid hlen
    generalize (U.mks (us.take i) k0).1 = pre at hn1 hpl hlen' ⊢
    generalize (U.mks (us.take i) k0).2 = kk at hn1 hn2 hkp hkb ⊢
    generalize hpost : us.drop (i + 1) = post at hlen' ⊢
    rw [List.length_append, List.length_cons] at hlen'
    refine V_seq (V_block ?_)
    have ht0 := markText_all (kk) (by omega) (by omega)
    repeat (first | refine gGP ?_ | refine qO (Q_index_own rfl rfl .ownp rfl TE.h TI.h (by omega) (by rw [List.length_append, List.length_cons]; omega)) ?_ | refine qQ (Q_index_own rfl rfl .ownp rfl TE.h TI.h (by omega) (by rw [List.length_append, List.length_cons]; omega)) ?_ | refine qO (Q_call rfl ht0 vA) ?_ | refine qQ (Q_call rfl ht0 vA) ?_)
    refine VR_storeF (v := .s (txt (kk))) rfl rfl .ownp hpl rfl rfl TI.h (by repeat constructor) .ownp (by repeat constructor) ?_
    have hm1 := ih0 a_0 a_1 a_2 a_3 a_4_0 a_4_1 a_4_2 a_5_0 a_5_1 a_5_2 a_5_3 a_5_4_0 a_5_4_1 a_5_4_2 a_5_5 a_5_6 hmem (kk + 1) (by omega) (by simp only [U.lf]; omega)
    change MSpec _ _ _ _ (.sl 1 (U.mks a_1 (kk + 1)).1) (U.mks a_1 (kk + 1)).2 at hm1
    have hs1 := mks_snd a_1 (kk + 1)
    repeat (first | refine gGP ?_ | refine qO (Q_index_own rfl rfl .ownp rfl TE.h TI.h (by omega) (by rw [List.length_append, List.length_cons]; omega)) ?_ | refine qQ (Q_index_own rfl rfl .ownp rfl TE.h TI.h (by omega) (by rw [List.length_append, List.length_cons]; omega)) ?_)
    refine VR_markcall hm1 rfl rfl .ownp hpl TI.h (by repeat constructor) rfl rfl (by simp) .ownp (by repeat constructor) rfl rfl rfl (by decide) ?_
    have hm2 := ih1 a_0 a_1 a_2 a_3 a_4_0 a_4_1 a_4_2 a_5_0 a_5_1 a_5_2 a_5_3 a_5_4_0 a_5_4_1 a_5_4_2 a_5_5 a_5_6 hmem ((U.mks a_1 (kk + 1)).2) (by omega) (by simp only [U.lf]; omega)
    change MSpec _ _ _ _ (.sl 4 (U.mks a_2 ((U.mks a_1 (kk + 1)).2)).1) (U.mks a_2 ((U.mks a_1 (kk + 1)).2)).2 at hm2
    have hs2 := mks_snd a_2 ((U.mks a_1 (kk + 1)).2)
    repeat (first | refine gGP ?_ | refine qO (Q_index_own rfl rfl .ownp rfl TE.h TI.h (by omega) (by rw [List.length_append, List.length_cons]; omega)) ?_ | refine qQ (Q_index_own rfl rfl .ownp rfl TE.h TI.h (by omega) (by rw [List.length_append, List.length_cons]; omega)) ?_)
    refine VR_markcall hm2 rfl rfl .ownp hpl TI.h (by repeat constructor) rfl rfl (by simp) .ownp (by repeat constructor) rfl rfl rfl (by decide) ?_
    have hm3 := ih2 a_0 a_1 a_2 a_3 a_4_0 a_4_1 a_4_2 a_5_0 a_5_1 a_5_2 a_5_3 a_5_4_0 a_5_4_1 a_5_4_2 a_5_5 a_5_6 hmem ((U.mks a_2 ((U.mks a_1 (kk + 1)).2)).2) (by omega) (by simp only [U.lf]; omega)
    change MSpec _ _ _ _ (.sl 4 (U.mks a_3 ((U.mks a_2 ((U.mks a_1 (kk + 1)).2)).2)).1) (U.mks a_3 ((U.mks a_2 ((U.mks a_1 (kk + 1)).2)).2)).2 at hm3
    have hs3 := mks_snd a_3 ((U.mks a_2 ((U.mks a_1 (kk + 1)).2)).2)
    repeat (first | refine gGP ?_ | refine qO (Q_index_own rfl rfl .ownp rfl TE.h TI.h (by omega) (by rw [List.length_append, List.length_cons]; omega)) ?_ | refine qQ (Q_index_own rfl rfl .ownp rfl TE.h TI.h (by omega) (by rw [List.length_append, List.length_cons]; omega)) ?_)
    refine VR_markcall hm3 rfl rfl .ownp hpl TI.h (by repeat constructor) rfl rfl (by simp) .ownp (by repeat constructor) rfl rfl rfl (by decide) ?_
    repeat (first | refine gGP ?_ | refine qO (Q_index_own rfl rfl .ownp rfl TE.h TI.h (by omega) (by rw [List.length_append, List.length_cons]; omega)) ?_ | refine qQ (Q_index_own rfl rfl .ownp rfl TE.h TI.h (by omega) (by rw [List.length_append, List.length_cons]; omega)) ?_)
    refine VR_storeF (v := .i .i64 ((U.mks a_3 ((U.mks a_2 ((U.mks a_1 (kk + 1)).2)).2)).2)) rfl rfl .ownp hpl rfl rfl TI.h (by repeat constructor) .ownp (by repeat constructor) ?_
    have ht5 := markText_all ((U.mks a_3 ((U.mks a_2 ((U.mks a_1 (kk + 1)).2)).2)).2 + 1) (by omega) (by omega)
    repeat (first | refine gGP ?_ | refine qO (Q_index_own rfl rfl .ownp rfl TE.h TI.h (by omega) (by rw [List.length_append, List.length_cons]; omega)) ?_ | refine qQ (Q_index_own rfl rfl .ownp rfl TE.h TI.h (by omega) (by rw [List.length_append, List.length_cons]; omega)) ?_ | refine qO (Q_call rfl ht5 vA) ?_ | refine qQ (Q_call rfl ht5 vA) ?_)
    refine VR_storeF (v := .s (txt ((U.mks a_3 ((U.mks a_2 ((U.mks a_1 (kk + 1)).2)).2)).2 + 1))) rfl rfl .ownp hpl rfl rfl TI.h (by repeat constructor) .ownp (by repeat constructor) ?_
    have hm6 := ih3 a_0 a_1 a_2 a_3 a_4_0 a_4_1 a_4_2 a_5_0 a_5_1 a_5_2 a_5_3 a_5_4_0 a_5_4_1 a_5_4_2 a_5_5 a_5_6 hmem ((U.mks a_3 ((U.mks a_2 ((U.mks a_1 (kk + 1)).2)).2)).2 + 1 + 1) (by omega) (by simp only [U.lf]; omega)
    change MSpec _ _ _ _ (.sl 3 (U.mks a_4_2 ((U.mks a_3 ((U.mks a_2 ((U.mks a_1 (kk + 1)).2)).2)).2 + 1 + 1)).1) (U.mks a_4_2 ((U.mks a_3 ((U.mks a_2 ((U.mks a_1 (kk + 1)).2)).2)).2 + 1 + 1)).2 at hm6
    have hs6 := mks_snd a_4_2 ((U.mks a_3 ((U.mks a_2 ((U.mks a_1 (kk + 1)).2)).2)).2 + 1 + 1)
    repeat (first | refine gGP ?_ | refine qO (Q_index_own rfl rfl .ownp rfl TE.h TI.h (by omega) (by rw [List.length_append, List.length_cons]; omega)) ?_ | refine qQ (Q_index_own rfl rfl .ownp rfl TE.h TI.h (by omega) (by rw [List.length_append, List.length_cons]; omega)) ?_)
    refine VR_markcall hm6 rfl rfl .ownp hpl TI.h (by repeat constructor) rfl rfl (by simp) .ownp (by repeat constructor) rfl rfl rfl (by decide) ?_
    repeat (first | refine gGP ?_ | refine qO (Q_index_own rfl rfl .ownp rfl TE.h TI.h (by omega) (by rw [List.length_append, List.length_cons]; omega)) ?_ | refine qQ (Q_index_own rfl rfl .ownp rfl TE.h TI.h (by omega) (by rw [List.length_append, List.length_cons]; omega)) ?_)
    refine VR_storeF (v := .i .i64 ((U.mks a_4_2 ((U.mks a_3 ((U.mks a_2 ((U.mks a_1 (kk + 1)).2)).2)).2 + 1 + 1)).2)) rfl rfl .ownp hpl rfl rfl TI.h (by repeat constructor) .ownp (by repeat constructor) ?_
    have ht8 := markText_all ((U.mks a_4_2 ((U.mks a_3 ((U.mks a_2 ((U.mks a_1 (kk + 1)).2)).2)).2 + 1 + 1)).2 + 1) (by omega) (by omega)
    repeat (first | refine gGP ?_ | refine qO (Q_index_own rfl rfl .ownp rfl TE.h TI.h (by omega) (by rw [List.length_append, List.length_cons]; omega)) ?_ | refine qQ (Q_index_own rfl rfl .ownp rfl TE.h TI.h (by omega) (by rw [List.length_append, List.length_cons]; omega)) ?_ | refine qO (Q_call rfl ht8 vA) ?_ | refine qQ (Q_call rfl ht8 vA) ?_)
    refine VR_storeF (v := .s (txt ((U.mks a_4_2 ((U.mks a_3 ((U.mks a_2 ((U.mks a_1 (kk + 1)).2)).2)).2 + 1 + 1)).2 + 1))) rfl rfl .ownp hpl rfl rfl TI.h (by repeat constructor) .ownp (by repeat constructor) ?_
    have ht9 := markText_all ((U.mks a_4_2 ((U.mks a_3 ((U.mks a_2 ((U.mks a_1 (kk + 1)).2)).2)).2 + 1 + 1)).2 + 1 + 1) (by omega) (by omega)
    repeat (first | refine gGP ?_ | refine qO (Q_index_own rfl rfl .ownp rfl TE.h TI.h (by omega) (by rw [List.length_append, List.length_cons]; omega)) ?_ | refine qQ (Q_index_own rfl rfl .ownp rfl TE.h TI.h (by omega) (by rw [List.length_append, List.length_cons]; omega)) ?_ | refine qO (Q_call rfl ht9 vA) ?_ | refine qQ (Q_call rfl ht9 vA) ?_)
    refine VR_storeF (v := .s (txt ((U.mks a_4_2 ((U.mks a_3 ((U.mks a_2 ((U.mks a_1 (kk + 1)).2)).2)).2 + 1 + 1)).2 + 1 + 1))) rfl rfl .ownp hpl rfl rfl TI.h (by repeat constructor) .ownp (by repeat constructor) ?_
    repeat (first | refine gGP ?_ | refine qO (Q_index_own rfl rfl .ownp rfl TE.h TI.h (by omega) (by rw [List.length_append, List.length_cons]; omega)) ?_ | refine qQ (Q_index_own rfl rfl .ownp rfl TE.h TI.h (by omega) (by rw [List.length_append, List.length_cons]; omega)) ?_)
    refine VR_storeF (v := .i .i64 ((U.mks a_4_2 ((U.mks a_3 ((U.mks a_2 ((U.mks a_1 (kk + 1)).2)).2)).2 + 1 + 1)).2 + 1 + 1 + 1)) rfl rfl .ownp hpl rfl rfl TI.h (by repeat constructor) .ownp (by repeat constructor) ?_
    repeat (first | refine gGP ?_ | refine qO (Q_index_own rfl rfl .ownp rfl TE.h TI.h (by omega) (by rw [List.length_append, List.length_cons]; omega)) ?_ | refine qQ (Q_index_own rfl rfl .ownp rfl TE.h TI.h (by omega) (by rw [List.length_append, List.length_cons]; omega)) ?_)
    refine VR_storeF (v := .i .i64 ((U.mks a_4_2 ((U.mks a_3 ((U.mks a_2 ((U.mks a_1 (kk + 1)).2)).2)).2 + 1 + 1)).2 + 1 + 1 + 1 + 1)) rfl rfl .ownp hpl rfl rfl TI.h (by repeat constructor) .ownp (by repeat constructor) ?_
    have ht12 := markText_all ((U.mks a_4_2 ((U.mks a_3 ((U.mks a_2 ((U.mks a_1 (kk + 1)).2)).2)).2 + 1 + 1)).2 + 1 + 1 + 1 + 1 + 1) (by omega) (by omega)
    repeat (first | refine gGP ?_ | refine qO (Q_index_own rfl rfl .ownp rfl TE.h TI.h (by omega) (by rw [List.length_append, List.length_cons]; omega)) ?_ | refine qQ (Q_index_own rfl rfl .ownp rfl TE.h TI.h (by omega) (by rw [List.length_append, List.length_cons]; omega)) ?_ | refine qO (Q_call rfl ht12 vA) ?_ | refine qQ (Q_call rfl ht12 vA) ?_)
    refine VR_storeF (v := .s (txt ((U.mks a_4_2 ((U.mks a_3 ((U.mks a_2 ((U.mks a_1 (kk + 1)).2)).2)).2 + 1 + 1)).2 + 1 + 1 + 1 + 1 + 1))) rfl rfl .ownp hpl rfl rfl TI.h (by repeat constructor) .ownp (by repeat constructor) ?_
    have hm13 := ih4 a_0 a_1 a_2 a_3 a_4_0 a_4_1 a_4_2 a_5_0 a_5_1 a_5_2 a_5_3 a_5_4_0 a_5_4_1 a_5_4_2 a_5_5 a_5_6 hmem ((U.mks a_4_2 ((U.mks a_3 ((U.mks a_2 ((U.mks a_1 (kk + 1)).2)).2)).2 + 1 + 1)).2 + 1 + 1 + 1 + 1 + 1 + 1) (by omega) (by simp only [U.lf]; omega)
    change MSpec _ _ _ _ (.sl 3 (U.mks a_5_4_2 ((U.mks a_4_2 ((U.mks a_3 ((U.mks a_2 ((U.mks a_1 (kk + 1)).2)).2)).2 + 1 + 1)).2 + 1 + 1 + 1 + 1 + 1 + 1)).1) (U.mks a_5_4_2 ((U.mks a_4_2 ((U.mks a_3 ((U.mks a_2 ((U.mks a_1 (kk + 1)).2)).2)).2 + 1 + 1)).2 + 1 + 1 + 1 + 1 + 1 + 1)).2 at hm13
    have hs13 := mks_snd a_5_4_2 ((U.mks a_4_2 ((U.mks a_3 ((U.mks a_2 ((U.mks a_1 (kk + 1)).2)).2)).2 + 1 + 1)).2 + 1 + 1 + 1 + 1 + 1 + 1)
    repeat (first | refine gGP ?_ | refine qO (Q_index_own rfl rfl .ownp rfl TE.h TI.h (by omega) (by rw [List.length_append, List.length_cons]; omega)) ?_ | refine qQ (Q_index_own rfl rfl .ownp rfl TE.h TI.h (by omega) (by rw [List.length_append, List.length_cons]; omega)) ?_)
    refine VR_markcall hm13 rfl rfl .ownp hpl TI.h (by repeat constructor) rfl rfl (by simp) .ownp (by repeat constructor) rfl rfl rfl (by decide) ?_
    have hm14 := ih5 a_0 a_1 a_2 a_3 a_4_0 a_4_1 a_4_2 a_5_0 a_5_1 a_5_2 a_5_3 a_5_4_0 a_5_4_1 a_5_4_2 a_5_5 a_5_6 hmem ((U.mks a_5_4_2 ((U.mks a_4_2 ((U.mks a_3 ((U.mks a_2 ((U.mks a_1 (kk + 1)).2)).2)).2 + 1 + 1)).2 + 1 + 1 + 1 + 1 + 1 + 1)).2) (by omega) (by simp only [U.lf]; omega)
    change MSpec _ _ _ _ (.sl 9 (U.mks a_5_5 ((U.mks a_5_4_2 ((U.mks a_4_2 ((U.mks a_3 ((U.mks a_2 ((U.mks a_1 (kk + 1)).2)).2)).2 + 1 + 1)).2 + 1 + 1 + 1 + 1 + 1 + 1)).2)).1) (U.mks a_5_5 ((U.mks a_5_4_2 ((U.mks a_4_2 ((U.mks a_3 ((U.mks a_2 ((U.mks a_1 (kk + 1)).2)).2)).2 + 1 + 1)).2 + 1 + 1 + 1 + 1 + 1 + 1)).2)).2 at hm14
    have hs14 := mks_snd a_5_5 ((U.mks a_5_4_2 ((U.mks a_4_2 ((U.mks a_3 ((U.mks a_2 ((U.mks a_1 (kk + 1)).2)).2)).2 + 1 + 1)).2 + 1 + 1 + 1 + 1 + 1 + 1)).2)
    repeat (first | refine gGP ?_ | refine qO (Q_index_own rfl rfl .ownp rfl TE.h TI.h (by omega) (by rw [List.length_append, List.length_cons]; omega)) ?_ | refine qQ (Q_index_own rfl rfl .ownp rfl TE.h TI.h (by omega) (by rw [List.length_append, List.length_cons]; omega)) ?_)
    refine VR_markcall hm14 rfl rfl .ownp hpl TI.h (by repeat constructor) rfl rfl (by simp) .ownp (by repeat constructor) rfl rfl rfl (by decide) ?_
    have hm15 := ih6 a_0 a_1 a_2 a_3 a_4_0 a_4_1 a_4_2 a_5_0 a_5_1 a_5_2 a_5_3 a_5_4_0 a_5_4_1 a_5_4_2 a_5_5 a_5_6 hmem ((U.mks a_5_5 ((U.mks a_5_4_2 ((U.mks a_4_2 ((U.mks a_3 ((U.mks a_2 ((U.mks a_1 (kk + 1)).2)).2)).2 + 1 + 1)).2 + 1 + 1 + 1 + 1 + 1 + 1)).2)).2) (by omega) (by simp only [U.lf]; omega)
    change MSpec _ _ _ _ (.sl 11 (U.mks a_5_6 ((U.mks a_5_5 ((U.mks a_5_4_2 ((U.mks a_4_2 ((U.mks a_3 ((U.mks a_2 ((U.mks a_1 (kk + 1)).2)).2)).2 + 1 + 1)).2 + 1 + 1 + 1 + 1 + 1 + 1)).2)).2)).1) (U.mks a_5_6 ((U.mks a_5_5 ((U.mks a_5_4_2 ((U.mks a_4_2 ((U.mks a_3 ((U.mks a_2 ((U.mks a_1 (kk + 1)).2)).2)).2 + 1 + 1)).2 + 1 + 1 + 1 + 1 + 1 + 1)).2)).2)).2 at hm15
    have hs15 := mks_snd a_5_6 ((U.mks a_5_5 ((U.mks a_5_4_2 ((U.mks a_4_2 ((U.mks a_3 ((U.mks a_2 ((U.mks a_1 (kk + 1)).2)).2)).2 + 1 + 1)).2 + 1 + 1 + 1 + 1 + 1 + 1)).2)).2)
    repeat (first | refine gGP ?_ | refine qO (Q_index_own rfl rfl .ownp rfl TE.h TI.h (by omega) (by rw [List.length_append, List.length_cons]; omega)) ?_ | refine qQ (Q_index_own rfl rfl .ownp rfl TE.h TI.h (by omega) (by rw [List.length_append, List.length_cons]; omega)) ?_)
    refine VR_markcall hm15 rfl rfl .ownp hpl TI.h (by repeat constructor) rfl rfl (by simp) .ownp (by repeat constructor) rfl rfl rfl (by decide) ?_
    refine gGO ?_
    refine ⟨i + 1, by omega, by omega, ⟨rfl, ⟨⟨rfl, rfl⟩, ⟨?_, rfl⟩, ⟨rfl, rfl⟩, trivial⟩, ⟨[], ?_⟩, rfl⟩⟩
    · rw [hn2]; rfl
    · rw [hn1, hpost, List.append_assoc]; rfl
  · refine V_exit ?_
    simp only [decide_eq_false_iff_not] at hc2
    rw [hlen] at hc2
    have hkl : i = us.length := by omega
    subst hkl
    show V _ _ _ _ _
    refine gGO ?_
    refine V_ret ?_
    refine ⟨trivial, ?_, [], ?_⟩
    · show SV.d (.i .i64 (U.mks (us.take us.length) k0).2) = _
      rw [List.take_length]
    · simp only [List.take_length, List.drop_length, List.append_nil]
theorem markFunction_grp (u : U) : (∀ us, u = .sl 16 us → us.length ≤ big → (∀ x ∈ us, wt (.st 13) x) → PMk 75 u) := by
  refine U.ind (M := fun u => (∀ us, u = .sl 16 us → us.length ≤ big → (∀ x ∈ us, wt (.st 13) x) → PMk 75 u)) (fun u ih => ?_) u
  refine ?_
  · rintro us rfl hl hz
    exact markFunctionS_step hl hz (fun a_0 a_1 a_2 a_3 a_4_0 a_4_1 a_4_2 a_5_0 a_5_1 a_5_2 a_5_3 a_5_4_0 a_5_4_1 a_5_4_2 a_5_5 a_5_6 ha => by obtain ⟨_, _, _, _, _, _, hx_a, qa_0, qa_1, qa_2, qa_3, qa_4, qa_5⟩ := inv_Function (hz _ ha); cases hx_a; obtain ⟨_, _, _, hx_a_4, qa_4_0, qa_4_1, qa_4_2⟩ := inv_Type qa_4; cases hx_a_4; obtain ⟨_, _, _, _, _, _, _, hx_a_5, qa_5_0, qa_5_1, qa_5_2, qa_5_3, qa_5_4, qa_5_5, qa_5_6⟩ := inv_Expr qa_5; cases hx_a_5; obtain ⟨_, _, _, hx_a_5_4, qa_5_4_0, qa_5_4_1, qa_5_4_2⟩ := inv_Type qa_5_4; cases hx_a_5_4; exact markStringS_all qa_1) (fun a_0 a_1 a_2 a_3 a_4_0 a_4_1 a_4_2 a_5_0 a_5_1 a_5_2 a_5_3 a_5_4_0 a_5_4_1 a_5_4_2 a_5_5 a_5_6 ha => by obtain ⟨_, _, _, _, _, _, hx_a, qa_0, qa_1, qa_2, qa_3, qa_4, qa_5⟩ := inv_Function (hz _ ha); cases hx_a; obtain ⟨_, _, _, hx_a_4, qa_4_0, qa_4_1, qa_4_2⟩ := inv_Type qa_4; cases hx_a_4; obtain ⟨_, _, _, _, _, _, _, hx_a_5, qa_5_0, qa_5_1, qa_5_2, qa_5_3, qa_5_4, qa_5_5, qa_5_6⟩ := inv_Expr qa_5; cases hx_a_5; obtain ⟨_, _, _, hx_a_5_4, qa_5_4_0, qa_5_4_1, qa_5_4_2⟩ := inv_Type qa_5_4; cases hx_a_5_4; exact markBoundS_all qa_2) (fun a_0 a_1 a_2 a_3 a_4_0 a_4_1 a_4_2 a_5_0 a_5_1 a_5_2 a_5_3 a_5_4_0 a_5_4_1 a_5_4_2 a_5_5 a_5_6 ha => by obtain ⟨_, _, _, _, _, _, hx_a, qa_0, qa_1, qa_2, qa_3, qa_4, qa_5⟩ := inv_Function (hz _ ha); cases hx_a; obtain ⟨_, _, _, hx_a_4, qa_4_0, qa_4_1, qa_4_2⟩ := inv_Type qa_4; cases hx_a_4; obtain ⟨_, _, _, _, _, _, _, hx_a_5, qa_5_0, qa_5_1, qa_5_2, qa_5_3, qa_5_4, qa_5_5, qa_5_6⟩ := inv_Expr qa_5; cases hx_a_5; obtain ⟨_, _, _, hx_a_5_4, qa_5_4_0, qa_5_4_1, qa_5_4_2⟩ := inv_Type qa_5_4; cases hx_a_5_4; exact markParamS_all qa_3) (fun a_0 a_1 a_2 a_3 a_4_0 a_4_1 a_4_2 a_5_0 a_5_1 a_5_2 a_5_3 a_5_4_0 a_5_4_1 a_5_4_2 a_5_5 a_5_6 ha => by obtain ⟨_, _, _, _, _, _, hx_a, qa_0, qa_1, qa_2, qa_3, qa_4, qa_5⟩ := inv_Function (hz _ ha); cases hx_a; obtain ⟨_, _, _, hx_a_4, qa_4_0, qa_4_1, qa_4_2⟩ := inv_Type qa_4; cases hx_a_4; obtain ⟨_, _, _, _, _, _, _, hx_a_5, qa_5_0, qa_5_1, qa_5_2, qa_5_3, qa_5_4, qa_5_5, qa_5_6⟩ := inv_Expr qa_5; cases hx_a_5; obtain ⟨_, _, _, hx_a_5_4, qa_5_4_0, qa_5_4_1, qa_5_4_2⟩ := inv_Type qa_5_4; cases hx_a_5_4; exact markTypeS_all qa_4_2) (fun a_0 a_1 a_2 a_3 a_4_0 a_4_1 a_4_2 a_5_0 a_5_1 a_5_2 a_5_3 a_5_4_0 a_5_4_1 a_5_4_2 a_5_5 a_5_6 ha => by obtain ⟨_, _, _, _, _, _, hx_a, qa_0, qa_1, qa_2, qa_3, qa_4, qa_5⟩ := inv_Function (hz _ ha); cases hx_a; obtain ⟨_, _, _, hx_a_4, qa_4_0, qa_4_1, qa_4_2⟩ := inv_Type qa_4; cases hx_a_4; obtain ⟨_, _, _, _, _, _, _, hx_a_5, qa_5_0, qa_5_1, qa_5_2, qa_5_3, qa_5_4, qa_5_5, qa_5_6⟩ := inv_Expr qa_5; cases hx_a_5; obtain ⟨_, _, _, hx_a_5_4, qa_5_4_0, qa_5_4_1, qa_5_4_2⟩ := inv_Type qa_5_4; cases hx_a_5_4; exact markTypeS_all qa_5_4_2) (fun a_0 a_1 a_2 a_3 a_4_0 a_4_1 a_4_2 a_5_0 a_5_1 a_5_2 a_5_3 a_5_4_0 a_5_4_1 a_5_4_2 a_5_5 a_5_6 ha => by obtain ⟨_, _, _, _, _, _, hx_a, qa_0, qa_1, qa_2, qa_3, qa_4, qa_5⟩ := inv_Function (hz _ ha); cases hx_a; obtain ⟨_, _, _, hx_a_4, qa_4_0, qa_4_1, qa_4_2⟩ := inv_Type qa_4; cases hx_a_4; obtain ⟨_, _, _, _, _, _, _, hx_a_5, qa_5_0, qa_5_1, qa_5_2, qa_5_3, qa_5_4, qa_5_5, qa_5_6⟩ := inv_Expr qa_5; cases hx_a_5; obtain ⟨_, _, _, hx_a_5_4, qa_5_4_0, qa_5_4_1, qa_5_4_2⟩ := inv_Type qa_5_4; cases hx_a_5_4; exact markExprS_all qa_5_5) (fun a_0 a_1 a_2 a_3 a_4_0 a_4_1 a_4_2 a_5_0 a_5_1 a_5_2 a_5_3 a_5_4_0 a_5_4_1 a_5_4_2 a_5_5 a_5_6 ha => by obtain ⟨_, _, _, _, _, _, hx_a, qa_0, qa_1, qa_2, qa_3, qa_4, qa_5⟩ := inv_Function (hz _ ha); cases hx_a; obtain ⟨_, _, _, hx_a_4, qa_4_0, qa_4_1, qa_4_2⟩ := inv_Type qa_4; cases hx_a_4; obtain ⟨_, _, _, _, _, _, _, hx_a_5, qa_5_0, qa_5_1, qa_5_2, qa_5_3, qa_5_4, qa_5_5, qa_5_6⟩ := inv_Expr qa_5; cases hx_a_5; obtain ⟨_, _, _, hx_a_5_4, qa_5_4_0, qa_5_4_1, qa_5_4_2⟩ := inv_Type qa_5_4; cases hx_a_5_4; exact markArmS_all qa_5_6)
theorem markFunctionS_all {us : List U} (h : us.length ≤ big ∧ ∀ x ∈ us, wt (.st 13) x) : PMk 75 (.sl 16 us) := (markFunction_grp (.sl 16 us)) us rfl h.1 h.2
set_option maxRecDepth 8000 in
set_option maxHeartbeats 8000000 in
theorem markPackageS_step {us : List U} (hl : us.length ≤ big) (hz : ∀ a ∈ us, wt (.st 14) a) (ih0 : ∀ (a_0 : List UInt8) (a_1 : List U) (a_2 : List U) (a_3 : List U) (a_4 : List U) (a_5 : List U), .st [.s a_0, .sl 1 a_1, .sl 5 a_2, .sl 3 a_3, .sl 12 a_4, .sl 16 a_5] ∈ us → PMk 57 (.sl 1 a_1)) (ih1 : ∀ (a_0 : List UInt8) (a_1 : List U) (a_2 : List U) (a_3 : List U) (a_4 : List U) (a_5 : List U), .st [.s a_0, .sl 1 a_1, .sl 5 a_2, .sl 3 a_3, .sl 12 a_4, .sl 16 a_5] ∈ us → PMk 72 (.sl 5 a_2)) (ih2 : ∀ (a_0 : List UInt8) (a_1 : List U) (a_2 : List U) (a_3 : List U) (a_4 : List U) (a_5 : List U), .st [.s a_0, .sl 1 a_1, .sl 5 a_2, .sl 3 a_3, .sl 12 a_4, .sl 16 a_5] ∈ us → PMk 73 (.sl 3 a_3)) (ih3 : ∀ (a_0 : List UInt8) (a_1 : List U) (a_2 : List U) (a_3 : List U) (a_4 : List U) (a_5 : List U), .st [.s a_0, .sl 1 a_1, .sl 5 a_2, .sl 3 a_3, .sl 12 a_4, .sl 16 a_5] ∈ us → PMk 74 (.sl 12 a_4)) (ih4 : ∀ (a_0 : List UInt8) (a_1 : List U) (a_2 : List U) (a_3 : List U) (a_4 : List U) (a_5 : List U), .st [.s a_0, .sl 1 a_1, .sl 5 a_2, .sl 3 a_3, .sl 12 a_4, .sl 16 a_5] ∈ us → PMk 75 (.sl 16 a_5)) : PMk 32 (.sl 6 us) := by
  intro k0 hk0 hk1
  have hlf : (U.sl 6 us).lf = U.lfs us := rfl
  rw [hlf] at hk1
  rw [big_eq] at hl
  show MSpec _ _ _ _ (.sl 6 (U.mks us k0).1) (U.mks us k0).2
  refine MSpec_intro (fun hv e => [.ownp (hv 0) (e 0) 6 us]) (fun hv e => [.ownp (hv 0) (e 0) 6 (U.mks us k0).1]) Tryz.func32 rfl (by kernel_rfl) rfl rfl (fun _ _ => .sl) (fun _ _ => .sl) rfl rfl fun A hv e _ => ?_
  refine gGO ?_
  refine V_block ?_
  refine V_loop (α := Nat)
    (fun i => ⟨[(0, .sl 0 0), (1, .d (.i .i64 (U.mks (us.take i) k0).2)), (5, .d (.i .i64 i))], [.ownp (hv 0) (e 0) 6 ((U.mks (us.take i) k0).1 ++ us.drop i)], Tryz.f32.ntmps⟩)
    (fun i => i ≤ us.length)
    (fun i => us.length - i) 0 ⟨rfl, ⟨⟨rfl, rfl⟩, ⟨rfl, rfl⟩, ⟨rfl, rfl⟩, trivial⟩, ⟨[], rfl⟩, rfl⟩ (by simp) ?_
  intro i hi
  have hlen : ((U.mks (us.take i) k0).1 ++ us.drop i).length = us.length := by simp [mks_len]; omega
  refine gGO ?_
  (first | refine V_cond rfl (fun hc2 => ?_) (fun hc2 => ?_) | refine V_seq (V_cond rfl (fun hc2 => ?_) (fun hc2 => ?_)))
  · refine V_skip ?_
    simp only [decide_eq_true_eq] at hc2
    rw [hlen] at hc2
    have hil : i < us.length := by omega
    obtain ⟨a, hget⟩ : ∃ a, us[i]? = some a := ⟨_, List.getElem?_eq_getElem hil⟩
    have hmem := List.mem_of_getElem? hget
    have hdrop := drop_get hget
    obtain ⟨hn1, hn2⟩ := mks_next hget k0
    have hmid := lfs_mid hget
    have hsnd := mks_snd (us.take i) k0
    have hpl : (U.mks (us.take i) k0).1.length = i := by simp [mks_len]; omega
    have hwa := hz a hmem
    obtain ⟨a_0, a_1, a_2, a_3, a_4, a_5, rfl, hwa_0, hwa_1, hwa_2, hwa_3, hwa_4, hwa_5⟩ := inv_Package hwa
    have hlfa : ((.st [.s a_0, .sl 1 a_1, .sl 5 a_2, .sl 3 a_3, .sl 12 a_4, .sl 16 a_5]) : U).lf = 0 + 1 + U.lfs a_1 + U.lfs a_2 + U.lfs a_3 + U.lfs a_4 + U.lfs a_5 := by simp [U.lf, U.lfs] <;> omega
    rw [hlfa] at hmid
    refine V_cast [.ownp (hv 0) (e 0) 6 ((U.mks (us.take i) k0).1 ++ (.st [.s a_0, .sl 1 a_1, .sl 5 a_2, .sl 3 a_3, .sl 12 a_4, .sl 16 a_5]) :: us.drop (i + 1))] (by rw [hdrop]) ?_
    have hkp : 0 < (U.mks (us.take i) k0).2 := by omega
    have hkb : (U.mks (us.take i) k0).2 + (0 + 1 + U.lfs a_1 + U.lfs a_2 + U.lfs a_3 + U.lfs a_4 + U.lfs a_5 : Nat) ≤ 4611686018427387904 := by omega
    have hlen' : ((U.mks (us.take i) k0).1 ++ (.st [.s a_0, .sl 1 a_1, .sl 5 a_2, .sl 3 a_3, .sl 12 a_4, .sl 16 a_5]) :: us.drop (i + 1)).length = us.length := by rw [← hdrop]; exact hlen
    clear hdrop hsnd hlfa hmid hlen
    generalize (U.mks (us.take i) k0).1 = pre at hn1 hpl hlen' ⊢
    generalize (U.mks (us.take i) k0).2 = kk at hn1 hn2 hkp hkb ⊢
    generalize hpost : us.drop (i + 1) = post at hlen' ⊢
    rw [List.length_append, List.length_cons] at hlen'
    refine V_seq (V_block ?_)
    have ht0 := markText_all (kk) (by omega) (by omega)
    repeat (first | refine gGP ?_ | refine qO (Q_index_own rfl rfl .ownp rfl TE.h TI.h (by omega) (by rw [List.length_append, List.length_cons]; omega)) ?_ | refine qQ (Q_index_own rfl rfl .ownp rfl TE.h TI.h (by omega) (by rw [List.length_append, List.length_cons]; omega)) ?_ | refine qO (Q_call rfl ht0 vA) ?_ | refine qQ (Q_call rfl ht0 vA) ?_)
    refine VR_storeF (v := .s (txt (kk))) rfl rfl .ownp hpl rfl rfl TI.h (by repeat constructor) .ownp (by repeat constructor) ?_
    have hm1 := ih0 a_0 a_1 a_2 a_3 a_4 a_5 hmem (kk + 1) (by omega) (by simp only [U.lf]; omega)
    change MSpec _ _ _ _ (.sl 1 (U.mks a_1 (kk + 1)).1) (U.mks a_1 (kk + 1)).2 at hm1
    have hs1 := mks_snd a_1 (kk + 1)
    repeat (first | refine gGP ?_ | refine qO (Q_index_own rfl rfl .ownp rfl TE.h TI.h (by omega) (by rw [List.length_append, List.length_cons]; omega)) ?_ | refine qQ (Q_index_own rfl rfl .ownp rfl TE.h TI.h (by omega) (by rw [List.length_append, List.length_cons]; omega)) ?_)
    refine VR_markcall hm1 rfl rfl .ownp hpl TI.h (by repeat constructor) rfl rfl (by simp) .ownp (by repeat constructor) rfl rfl rfl (by decide) ?_
    have hm2 := ih1 a_0 a_1 a_2 a_3 a_4 a_5 hmem ((U.mks a_1 (kk + 1)).2) (by omega) (by simp only [U.lf]; omega)
    change MSpec _ _ _ _ (.sl 5 (U.mks a_2 ((U.mks a_1 (kk + 1)).2)).1) (U.mks a_2 ((U.mks a_1 (kk + 1)).2)).2 at hm2
    have hs2 := mks_snd a_2 ((U.mks a_1 (kk + 1)).2)
    repeat (first | refine gGP ?_ | refine qO (Q_index_own rfl rfl .ownp rfl TE.h TI.h (by omega) (by rw [List.length_append, List.length_cons]; omega)) ?_ | refine qQ (Q_index_own rfl rfl .ownp rfl TE.h TI.h (by omega) (by rw [List.length_append, List.length_cons]; omega)) ?_)
    refine VR_markcall hm2 rfl rfl .ownp hpl TI.h (by repeat constructor) rfl rfl (by simp) .ownp (by repeat constructor) rfl rfl rfl (by decide) ?_
    have hm3 := ih2 a_0 a_1 a_2 a_3 a_4 a_5 hmem ((U.mks a_2 ((U.mks a_1 (kk + 1)).2)).2) (by omega) (by simp only [U.lf]; omega)
    change MSpec _ _ _ _ (.sl 3 (U.mks a_3 ((U.mks a_2 ((U.mks a_1 (kk + 1)).2)).2)).1) (U.mks a_3 ((U.mks a_2 ((U.mks a_1 (kk + 1)).2)).2)).2 at hm3
    have hs3 := mks_snd a_3 ((U.mks a_2 ((U.mks a_1 (kk + 1)).2)).2)
    repeat (first | refine gGP ?_ | refine qO (Q_index_own rfl rfl .ownp rfl TE.h TI.h (by omega) (by rw [List.length_append, List.length_cons]; omega)) ?_ | refine qQ (Q_index_own rfl rfl .ownp rfl TE.h TI.h (by omega) (by rw [List.length_append, List.length_cons]; omega)) ?_)
    refine VR_markcall hm3 rfl rfl .ownp hpl TI.h (by repeat constructor) rfl rfl (by simp) .ownp (by repeat constructor) rfl rfl rfl (by decide) ?_
    have hm4 := ih3 a_0 a_1 a_2 a_3 a_4 a_5 hmem ((U.mks a_3 ((U.mks a_2 ((U.mks a_1 (kk + 1)).2)).2)).2) (by omega) (by simp only [U.lf]; omega)
    change MSpec _ _ _ _ (.sl 12 (U.mks a_4 ((U.mks a_3 ((U.mks a_2 ((U.mks a_1 (kk + 1)).2)).2)).2)).1) (U.mks a_4 ((U.mks a_3 ((U.mks a_2 ((U.mks a_1 (kk + 1)).2)).2)).2)).2 at hm4
    have hs4 := mks_snd a_4 ((U.mks a_3 ((U.mks a_2 ((U.mks a_1 (kk + 1)).2)).2)).2)
    repeat (first | refine gGP ?_ | refine qO (Q_index_own rfl rfl .ownp rfl TE.h TI.h (by omega) (by rw [List.length_append, List.length_cons]; omega)) ?_ | refine qQ (Q_index_own rfl rfl .ownp rfl TE.h TI.h (by omega) (by rw [List.length_append, List.length_cons]; omega)) ?_)
    refine VR_markcall hm4 rfl rfl .ownp hpl TI.h (by repeat constructor) rfl rfl (by simp) .ownp (by repeat constructor) rfl rfl rfl (by decide) ?_
    have hm5 := ih4 a_0 a_1 a_2 a_3 a_4 a_5 hmem ((U.mks a_4 ((U.mks a_3 ((U.mks a_2 ((U.mks a_1 (kk + 1)).2)).2)).2)).2) (by omega) (by simp only [U.lf]; omega)
    change MSpec _ _ _ _ (.sl 16 (U.mks a_5 ((U.mks a_4 ((U.mks a_3 ((U.mks a_2 ((U.mks a_1 (kk + 1)).2)).2)).2)).2)).1) (U.mks a_5 ((U.mks a_4 ((U.mks a_3 ((U.mks a_2 ((U.mks a_1 (kk + 1)).2)).2)).2)).2)).2 at hm5
    have hs5 := mks_snd a_5 ((U.mks a_4 ((U.mks a_3 ((U.mks a_2 ((U.mks a_1 (kk + 1)).2)).2)).2)).2)
    repeat (first | refine gGP ?_ | refine qO (Q_index_own rfl rfl .ownp rfl TE.h TI.h (by omega) (by rw [List.length_append, List.length_cons]; omega)) ?_ | refine qQ (Q_index_own rfl rfl .ownp rfl TE.h TI.h (by omega) (by rw [List.length_append, List.length_cons]; omega)) ?_)
    refine VR_markcall hm5 rfl rfl .ownp hpl TI.h (by repeat constructor) rfl rfl (by simp) .ownp (by repeat constructor) rfl rfl rfl (by decide) ?_
    refine gGO ?_
    refine ⟨i + 1, by omega, by omega, ⟨rfl, ⟨⟨rfl, rfl⟩, ⟨?_, rfl⟩, ⟨rfl, rfl⟩, trivial⟩, ⟨[], ?_⟩, rfl⟩⟩
    · rw [hn2]; rfl
    · rw [hn1, hpost, List.append_assoc]; rfl
  · refine V_exit ?_
    simp only [decide_eq_false_iff_not] at hc2
    rw [hlen] at hc2
    have hkl : i = us.length := by omega
    subst hkl
    show V _ _ _ _ _
    refine gGO ?_
    refine V_ret ?_
    refine ⟨trivial, ?_, [], ?_⟩
    · show SV.d (.i .i64 (U.mks (us.take us.length) k0).2) = _
      rw [List.take_length]
    · simp only [List.take_length, List.drop_length, List.append_nil]
theorem markPackage_grp (u : U) : (∀ us, u = .sl 6 us → us.length ≤ big → (∀ x ∈ us, wt (.st 14) x) → PMk 32 u) := by
  refine U.ind (M := fun u => (∀ us, u = .sl 6 us → us.length ≤ big → (∀ x ∈ us, wt (.st 14) x) → PMk 32 u)) (fun u ih => ?_) u
  refine ?_
  · rintro us rfl hl hz
    exact markPackageS_step hl hz (fun a_0 a_1 a_2 a_3 a_4 a_5 ha => by obtain ⟨_, _, _, _, _, _, hx_a, qa_0, qa_1, qa_2, qa_3, qa_4, qa_5⟩ := inv_Package (hz _ ha); cases hx_a; exact markStringS_all qa_1) (fun a_0 a_1 a_2 a_3 a_4 a_5 ha => by obtain ⟨_, _, _, _, _, _, hx_a, qa_0, qa_1, qa_2, qa_3, qa_4, qa_5⟩ := inv_Package (hz _ ha); cases hx_a; exact markTraitS_all qa_2) (fun a_0 a_1 a_2 a_3 a_4 a_5 ha => by obtain ⟨_, _, _, _, _, _, hx_a, qa_0, qa_1, qa_2, qa_3, qa_4, qa_5⟩ := inv_Package (hz _ ha); cases hx_a; exact markDataTypeS_all qa_3) (fun a_0 a_1 a_2 a_3 a_4 a_5 ha => by obtain ⟨_, _, _, _, _, _, hx_a, qa_0, qa_1, qa_2, qa_3, qa_4, qa_5⟩ := inv_Package (hz _ ha); cases hx_a; exact markInstanceS_all qa_4) (fun a_0 a_1 a_2 a_3 a_4 a_5 ha => by obtain ⟨_, _, _, _, _, _, hx_a, qa_0, qa_1, qa_2, qa_3, qa_4, qa_5⟩ := inv_Package (hz _ ha); cases hx_a; exact markFunctionS_all qa_5)
theorem markPackageS_all {us : List U} (h : us.length ≤ big ∧ ∀ x ∈ us, wt (.st 14) x) : PMk 32 (.sl 6 us) := (markPackage_grp (.sl 6 us)) us rfl h.1 h.2
set_option maxRecDepth 8000 in
set_option maxHeartbeats 8000000 in
theorem markProgram_step {f0 : List U} (h0 : PMk 32 (.sl 6 f0)) : PMk 10 (.st [.sl 6 f0]) := by
  intro k0 hk0 hk1
  have hlf : ((.st [.sl 6 f0]) : U).lf = 0 + U.lfs f0 := by simp [U.lf, U.lfs] <;> omega
  rw [hlf] at hk1
  show MSpec _ _ _ _ (.st [.sl 6 (U.mks f0 (k0)).1]) ((U.mks f0 (k0)).2)
  refine MSpec_intro (fun hv e => [.ownp (hv 0) (e 0) 6 f0]) (fun hv e => [.ownp (hv 0) (e 0) 6 (U.mks f0 (k0)).1]) Tryz.func10 rfl (by kernel_rfl) rfl rfl (fun _ _ => by repeat constructor) (fun _ _ => by repeat constructor) rfl rfl fun A hv e _ => ?_
  have hm0 := h0 (k0) (by omega) (by simp only [U.lf, U.lfs]; omega)
  have hs_f0 := mks_snd f0 (k0)
  refine gGO ?_
  refine VO_callM rfl hm0 rfl rfl (by repeat (first | exact rfl | constructor)) rfl (by repeat constructor) rfl ?_
  refine gGO ?_
  refine V_ret ?_
  exact ⟨trivial, rfl, _, rfl⟩
theorem markProgram_all {u : U} (h : wt (.st 15) u) : PMk 10 u := by
  obtain ⟨f0, rfl, p0⟩ := inv_Program h
  exact markProgram_step (markPackageS_all p0)
set_option maxRecDepth 8000 in
set_option maxHeartbeats 8000000 in
theorem markEvidenceS_step {us : List U} (hl : us.length ≤ big) (hz : ∀ a ∈ us, wt (.st 18) a) (ih0 : ∀ (a_0 : Int) (a_1 : Int) (a_2_0 : Int) (a_2_1 : Int) (a_3 : List U), .st [.i .i64 a_0, .i .i64 a_1, .st [.i .i64 a_2_0, .i .i64 a_2_1], .sl 5 a_3] ∈ us → PMk 62 (.sl 5 a_3)) : PMk 62 (.sl 5 us) := by
  intro k0 hk0 hk1
  have hlf : (U.sl 5 us).lf = U.lfs us := rfl
  rw [hlf] at hk1
  rw [big_eq] at hl
  show MSpec _ _ _ _ (.sl 5 (U.mks us k0).1) (U.mks us k0).2
  refine MSpec_intro (fun hv e => [.ownp (hv 0) (e 0) 5 us]) (fun hv e => [.ownp (hv 0) (e 0) 5 (U.mks us k0).1]) Tryz.func62 rfl (by kernel_rfl) rfl rfl (fun _ _ => .sl) (fun _ _ => .sl) rfl rfl fun A hv e _ => ?_
  refine gGO ?_
  refine V_block ?_
  refine V_loop (α := Nat)
    (fun i => ⟨[(0, .sl 0 0), (1, .d (.i .i64 (U.mks (us.take i) k0).2)), (5, .d (.i .i64 i))], [.ownp (hv 0) (e 0) 5 ((U.mks (us.take i) k0).1 ++ us.drop i)], Tryz.f62.ntmps⟩)
    (fun i => i ≤ us.length)
    (fun i => us.length - i) 0 ⟨rfl, ⟨⟨rfl, rfl⟩, ⟨rfl, rfl⟩, ⟨rfl, rfl⟩, trivial⟩, ⟨[], rfl⟩, rfl⟩ (by simp) ?_
  intro i hi
  have hlen : ((U.mks (us.take i) k0).1 ++ us.drop i).length = us.length := by simp [mks_len]; omega
  refine gGO ?_
  (first | refine V_cond rfl (fun hc2 => ?_) (fun hc2 => ?_) | refine V_seq (V_cond rfl (fun hc2 => ?_) (fun hc2 => ?_)))
  · refine V_skip ?_
    simp only [decide_eq_true_eq] at hc2
    rw [hlen] at hc2
    have hil : i < us.length := by omega
    obtain ⟨a, hget⟩ : ∃ a, us[i]? = some a := ⟨_, List.getElem?_eq_getElem hil⟩
    have hmem := List.mem_of_getElem? hget
    have hdrop := drop_get hget
    obtain ⟨hn1, hn2⟩ := mks_next hget k0
    have hmid := lfs_mid hget
    have hsnd := mks_snd (us.take i) k0
    have hpl : (U.mks (us.take i) k0).1.length = i := by simp [mks_len]; omega
    have hwa := hz a hmem
    obtain ⟨a_0, a_1, a_2, a_3, rfl, hwa_0, hwa_1, hwa_2, hwa_3⟩ := inv_Evidence hwa
    obtain ⟨a_2_0, a_2_1, rfl, hwa_2_0, hwa_2_1⟩ := inv_InstanceRef hwa_2
    have hlfa : ((.st [.i .i64 a_0, .i .i64 a_1, .st [.i .i64 a_2_0, .i .i64 a_2_1], .sl 5 a_3]) : U).lf = 0 + 1 + 1 + 1 + 1 + U.lfs a_3 := by simp [U.lf, U.lfs] <;> omega
    rw [hlfa] at hmid
    refine V_cast [.ownp (hv 0) (e 0) 5 ((U.mks (us.take i) k0).1 ++ (.st [.i .i64 a_0, .i .i64 a_1, .st [.i .i64 a_2_0, .i .i64 a_2_1], .sl 5 a_3]) :: us.drop (i + 1))] (by rw [hdrop]) ?_
    have hkp : 0 < (U.mks (us.take i) k0).2 := by omega
    have hkb : (U.mks (us.take i) k0).2 + (0 + 1 + 1 + 1 + 1 + U.lfs a_3 : Nat) ≤ 4611686018427387904 := by omega
    have hlen' : ((U.mks (us.take i) k0).1 ++ (.st [.i .i64 a_0, .i .i64 a_1, .st [.i .i64 a_2_0, .i .i64 a_2_1], .sl 5 a_3]) :: us.drop (i + 1)).length = us.length := by rw [← hdrop]; exact hlen
    clear hdrop hsnd hlfa hmid hlen
    generalize (U.mks (us.take i) k0).1 = pre at hn1 hpl hlen' ⊢
    generalize (U.mks (us.take i) k0).2 = kk at hn1 hn2 hkp hkb ⊢
    generalize hpost : us.drop (i + 1) = post at hlen' ⊢
    rw [List.length_append, List.length_cons] at hlen'
    refine V_seq (V_block ?_)
    repeat (first | refine gGP ?_ | refine qO (Q_index_own rfl rfl .ownp rfl TE.h TI.h (by omega) (by rw [List.length_append, List.length_cons]; omega)) ?_ | refine qQ (Q_index_own rfl rfl .ownp rfl TE.h TI.h (by omega) (by rw [List.length_append, List.length_cons]; omega)) ?_)
    refine VR_storeF (v := .i .i64 (kk)) rfl rfl .ownp hpl rfl rfl TI.h (by repeat constructor) .ownp (by repeat constructor) ?_
    repeat (first | refine gGP ?_ | refine qO (Q_index_own rfl rfl .ownp rfl TE.h TI.h (by omega) (by rw [List.length_append, List.length_cons]; omega)) ?_ | refine qQ (Q_index_own rfl rfl .ownp rfl TE.h TI.h (by omega) (by rw [List.length_append, List.length_cons]; omega)) ?_)
    refine VR_storeF (v := .i .i64 (kk + 1)) rfl rfl .ownp hpl rfl rfl TI.h (by repeat constructor) .ownp (by repeat constructor) ?_
    repeat (first | refine gGP ?_ | refine qO (Q_index_own rfl rfl .ownp rfl TE.h TI.h (by omega) (by rw [List.length_append, List.length_cons]; omega)) ?_ | refine qQ (Q_index_own rfl rfl .ownp rfl TE.h TI.h (by omega) (by rw [List.length_append, List.length_cons]; omega)) ?_)
    refine VR_storeF (v := .i .i64 (kk + 1 + 1)) rfl rfl .ownp hpl rfl rfl TI.h (by repeat constructor) .ownp (by repeat constructor) ?_
    repeat (first | refine gGP ?_ | refine qO (Q_index_own rfl rfl .ownp rfl TE.h TI.h (by omega) (by rw [List.length_append, List.length_cons]; omega)) ?_ | refine qQ (Q_index_own rfl rfl .ownp rfl TE.h TI.h (by omega) (by rw [List.length_append, List.length_cons]; omega)) ?_)
    refine VR_storeF (v := .i .i64 (kk + 1 + 1 + 1)) rfl rfl .ownp hpl rfl rfl TI.h (by repeat constructor) .ownp (by repeat constructor) ?_
    have hm4 := ih0 a_0 a_1 a_2_0 a_2_1 a_3 hmem (kk + 1 + 1 + 1 + 1) (by omega) (by simp only [U.lf]; omega)
    change MSpec _ _ _ _ (.sl 5 (U.mks a_3 (kk + 1 + 1 + 1 + 1)).1) (U.mks a_3 (kk + 1 + 1 + 1 + 1)).2 at hm4
    have hs4 := mks_snd a_3 (kk + 1 + 1 + 1 + 1)
    repeat (first | refine gGP ?_ | refine qO (Q_index_own rfl rfl .ownp rfl TE.h TI.h (by omega) (by rw [List.length_append, List.length_cons]; omega)) ?_ | refine qQ (Q_index_own rfl rfl .ownp rfl TE.h TI.h (by omega) (by rw [List.length_append, List.length_cons]; omega)) ?_)
    refine VR_markcall hm4 rfl rfl .ownp hpl TI.h (by repeat constructor) rfl rfl (by simp) .ownp (by repeat constructor) rfl rfl rfl (by decide) ?_
    refine gGO ?_
    refine ⟨i + 1, by omega, by omega, ⟨rfl, ⟨⟨rfl, rfl⟩, ⟨?_, rfl⟩, ⟨rfl, rfl⟩, trivial⟩, ⟨[], ?_⟩, rfl⟩⟩
    · rw [hn2]; rfl
    · rw [hn1, hpost, List.append_assoc]; rfl
  · refine V_exit ?_
    simp only [decide_eq_false_iff_not] at hc2
    rw [hlen] at hc2
    have hkl : i = us.length := by omega
    subst hkl
    show V _ _ _ _ _
    refine gGO ?_
    refine V_ret ?_
    refine ⟨trivial, ?_, [], ?_⟩
    · show SV.d (.i .i64 (U.mks (us.take us.length) k0).2) = _
      rw [List.take_length]
    · simp only [List.take_length, List.drop_length, List.append_nil]
theorem markEvidence_grp (u : U) : (∀ us, u = .sl 5 us → us.length ≤ big → (∀ x ∈ us, wt (.st 18) x) → PMk 62 u) := by
  refine U.ind (M := fun u => (∀ us, u = .sl 5 us → us.length ≤ big → (∀ x ∈ us, wt (.st 18) x) → PMk 62 u)) (fun u ih => ?_) u
  refine ?_
  · rintro us rfl hl hz
    exact markEvidenceS_step hl hz (fun a_0 a_1 a_2_0 a_2_1 a_3 ha => by obtain ⟨_, _, _, _, hx_a, qa_0, qa_1, qa_2, qa_3⟩ := inv_Evidence (hz _ ha); cases hx_a; obtain ⟨_, _, hx_a_2, qa_2_0, qa_2_1⟩ := inv_InstanceRef qa_2; cases hx_a_2; exact (ih (.sl 5 a_3) (by have := nn_of_mem ha; simp only [U.nn, U.nns] at this ⊢; omega)) a_3 rfl qa_3.1 qa_3.2)
theorem markEvidenceS_all {us : List U} (h : us.length ≤ big ∧ ∀ x ∈ us, wt (.st 18) x) : PMk 62 (.sl 5 us) := (markEvidence_grp (.sl 5 us)) us rfl h.1 h.2
set_option maxRecDepth 8000 in
set_option maxHeartbeats 8000000 in
theorem markCoreArmS_step {us : List U} (hl : us.length ≤ big) (hz : ∀ a ∈ us, wt (.st 20) a) (ih0 : ∀ (a_0 : List UInt8) (a_1 : List U) (a_2_0 : Int) (a_2_1 : List UInt8) (a_2_2 : List UInt8) (a_2_3 : Int) (a_2_4_0 : Int) (a_2_4_1 : List UInt8) (a_2_4_2 : List U) (a_2_5 : List U) (a_2_6 : List U) (a_2_7 : List U) (a_2_8 : List U), .st [.s a_0, .sl 1 a_1, .st [.i .i64 a_2_0, .s a_2_1, .s a_2_2, .i .i64 a_2_3, .st [.i .i64 a_2_4_0, .s a_2_4_1, .sl 3 a_2_4_2], .sl 3 a_2_5, .sl 5 a_2_6, .sl 11 a_2_7, .sl 13 a_2_8]] ∈ us → PMk 57 (.sl 1 a_1)) (ih1 : ∀ (a_0 : List UInt8) (a_1 : List U) (a_2_0 : Int) (a_2_1 : List UInt8) (a_2_2 : List UInt8) (a_2_3 : Int) (a_2_4_0 : Int) (a_2_4_1 : List UInt8) (a_2_4_2 : List U) (a_2_5 : List U) (a_2_6 : List U) (a_2_7 : List U) (a_2_8 : List U), .st [.s a_0, .sl 1 a_1, .st [.i .i64 a_2_0, .s a_2_1, .s a_2_2, .i .i64 a_2_3, .st [.i .i64 a_2_4_0, .s a_2_4_1, .sl 3 a_2_4_2], .sl 3 a_2_5, .sl 5 a_2_6, .sl 11 a_2_7, .sl 13 a_2_8]] ∈ us → PMk 61 (.sl 3 a_2_4_2)) (ih2 : ∀ (a_0 : List UInt8) (a_1 : List U) (a_2_0 : Int) (a_2_1 : List UInt8) (a_2_2 : List UInt8) (a_2_3 : Int) (a_2_4_0 : Int) (a_2_4_1 : List UInt8) (a_2_4_2 : List U) (a_2_5 : List U) (a_2_6 : List U) (a_2_7 : List U) (a_2_8 : List U), .st [.s a_0, .sl 1 a_1, .st [.i .i64 a_2_0, .s a_2_1, .s a_2_2, .i .i64 a_2_3, .st [.i .i64 a_2_4_0, .s a_2_4_1, .sl 3 a_2_4_2], .sl 3 a_2_5, .sl 5 a_2_6, .sl 11 a_2_7, .sl 13 a_2_8]] ∈ us → PMk 61 (.sl 3 a_2_5)) (ih3 : ∀ (a_0 : List UInt8) (a_1 : List U) (a_2_0 : Int) (a_2_1 : List UInt8) (a_2_2 : List UInt8) (a_2_3 : Int) (a_2_4_0 : Int) (a_2_4_1 : List UInt8) (a_2_4_2 : List U) (a_2_5 : List U) (a_2_6 : List U) (a_2_7 : List U) (a_2_8 : List U), .st [.s a_0, .sl 1 a_1, .st [.i .i64 a_2_0, .s a_2_1, .s a_2_2, .i .i64 a_2_3, .st [.i .i64 a_2_4_0, .s a_2_4_1, .sl 3 a_2_4_2], .sl 3 a_2_5, .sl 5 a_2_6, .sl 11 a_2_7, .sl 13 a_2_8]] ∈ us → PMk 62 (.sl 5 a_2_6)) (ih4 : ∀ (a_0 : List UInt8) (a_1 : List U) (a_2_0 : Int) (a_2_1 : List UInt8) (a_2_2 : List UInt8) (a_2_3 : Int) (a_2_4_0 : Int) (a_2_4_1 : List UInt8) (a_2_4_2 : List U) (a_2_5 : List U) (a_2_6 : List U) (a_2_7 : List U) (a_2_8 : List U), .st [.s a_0, .sl 1 a_1, .st [.i .i64 a_2_0, .s a_2_1, .s a_2_2, .i .i64 a_2_3, .st [.i .i64 a_2_4_0, .s a_2_4_1, .sl 3 a_2_4_2], .sl 3 a_2_5, .sl 5 a_2_6, .sl 11 a_2_7, .sl 13 a_2_8]] ∈ us → PMk 63 (.sl 11 a_2_7)) (ih5 : ∀ (a_0 : List UInt8) (a_1 : List U) (a_2_0 : Int) (a_2_1 : List UInt8) (a_2_2 : List UInt8) (a_2_3 : Int) (a_2_4_0 : Int) (a_2_4_1 : List UInt8) (a_2_4_2 : List U) (a_2_5 : List U) (a_2_6 : List U) (a_2_7 : List U) (a_2_8 : List U), .st [.s a_0, .sl 1 a_1, .st [.i .i64 a_2_0, .s a_2_1, .s a_2_2, .i .i64 a_2_3, .st [.i .i64 a_2_4_0, .s a_2_4_1, .sl 3 a_2_4_2], .sl 3 a_2_5, .sl 5 a_2_6, .sl 11 a_2_7, .sl 13 a_2_8]] ∈ us → PMk 64 (.sl 13 a_2_8)) : PMk 64 (.sl 13 us) := by
  intro k0 hk0 hk1
  have hlf : (U.sl 13 us).lf = U.lfs us := rfl
  rw [hlf] at hk1
  rw [big_eq] at hl
  show MSpec _ _ _ _ (.sl 13 (U.mks us k0).1) (U.mks us k0).2
  refine MSpec_intro (fun hv e => [.ownp (hv 0) (e 0) 13 us]) (fun hv e => [.ownp (hv 0) (e 0) 13 (U.mks us k0).1]) Tryz.func64 rfl (by kernel_rfl) rfl rfl (fun _ _ => .sl) (fun _ _ => .sl) rfl rfl fun A hv e _ => ?_
  refine gGO ?_
  refine V_block ?_
  refine V_loop (α := Nat)
    (fun i => ⟨[(0, .sl 0 0), (1, .d (.i .i64 (U.mks (us.take i) k0).2)), (5, .d (.i .i64 i))], [.ownp (hv 0) (e 0) 13 ((U.mks (us.take i) k0).1 ++ us.drop i)], Tryz.f64.ntmps⟩)
    (fun i => i ≤ us.length)
    (fun i => us.length - i) 0 ⟨rfl, ⟨⟨rfl, rfl⟩, ⟨rfl, rfl⟩, ⟨rfl, rfl⟩, trivial⟩, ⟨[], rfl⟩, rfl⟩ (by simp) ?_
  intro i hi
  have hlen : ((U.mks (us.take i) k0).1 ++ us.drop i).length = us.length := by simp [mks_len]; omega
  refine gGO ?_
  (first | refine V_cond rfl (fun hc2 => ?_) (fun hc2 => ?_) | refine V_seq (V_cond rfl (fun hc2 => ?_) (fun hc2 => ?_)))
  · refine V_skip ?_
    simp only [decide_eq_true_eq] at hc2
    rw [hlen] at hc2
    have hil : i < us.length := by omega
    obtain ⟨a, hget⟩ : ∃ a, us[i]? = some a := ⟨_, List.getElem?_eq_getElem hil⟩
    have hmem := List.mem_of_getElem? hget
    have hdrop := drop_get hget
    obtain ⟨hn1, hn2⟩ := mks_next hget k0
    have hmid := lfs_mid hget
    have hsnd := mks_snd (us.take i) k0
    have hpl : (U.mks (us.take i) k0).1.length = i := by simp [mks_len]; omega
    have hwa := hz a hmem
    obtain ⟨a_0, a_1, a_2, rfl, hwa_0, hwa_1, hwa_2⟩ := inv_CoreArm hwa
    obtain ⟨a_2_0, a_2_1, a_2_2, a_2_3, a_2_4, a_2_5, a_2_6, a_2_7, a_2_8, rfl, hwa_2_0, hwa_2_1, hwa_2_2, hwa_2_3, hwa_2_4, hwa_2_5, hwa_2_6, hwa_2_7, hwa_2_8⟩ := inv_Core hwa_2
    obtain ⟨a_2_4_0, a_2_4_1, a_2_4_2, rfl, hwa_2_4_0, hwa_2_4_1, hwa_2_4_2⟩ := inv_Type hwa_2_4
    have hlfa : ((.st [.s a_0, .sl 1 a_1, .st [.i .i64 a_2_0, .s a_2_1, .s a_2_2, .i .i64 a_2_3, .st [.i .i64 a_2_4_0, .s a_2_4_1, .sl 3 a_2_4_2], .sl 3 a_2_5, .sl 5 a_2_6, .sl 11 a_2_7, .sl 13 a_2_8]]) : U).lf = 0 + 1 + U.lfs a_1 + 1 + 1 + 1 + 1 + 1 + 1 + U.lfs a_2_4_2 + U.lfs a_2_5 + U.lfs a_2_6 + U.lfs a_2_7 + U.lfs a_2_8 := by simp [U.lf, U.lfs] <;> omega
    rw [hlfa] at hmid
    refine V_cast [.ownp (hv 0) (e 0) 13 ((U.mks (us.take i) k0).1 ++ (.st [.s a_0, .sl 1 a_1, .st [.i .i64 a_2_0, .s a_2_1, .s a_2_2, .i .i64 a_2_3, .st [.i .i64 a_2_4_0, .s a_2_4_1, .sl 3 a_2_4_2], .sl 3 a_2_5, .sl 5 a_2_6, .sl 11 a_2_7, .sl 13 a_2_8]]) :: us.drop (i + 1))] (by rw [hdrop]) ?_
    have hkp : 0 < (U.mks (us.take i) k0).2 := by omega
    have hkb : (U.mks (us.take i) k0).2 + (0 + 1 + U.lfs a_1 + 1 + 1 + 1 + 1 + 1 + 1 + U.lfs a_2_4_2 + U.lfs a_2_5 + U.lfs a_2_6 + U.lfs a_2_7 + U.lfs a_2_8 : Nat) ≤ 4611686018427387904 := by omega
    have hlen' : ((U.mks (us.take i) k0).1 ++ (.st [.s a_0, .sl 1 a_1, .st [.i .i64 a_2_0, .s a_2_1, .s a_2_2, .i .i64 a_2_3, .st [.i .i64 a_2_4_0, .s a_2_4_1, .sl 3 a_2_4_2], .sl 3 a_2_5, .sl 5 a_2_6, .sl 11 a_2_7, .sl 13 a_2_8]]) :: us.drop (i + 1)).length = us.length := by rw [← hdrop]; exact hlen
    clear hdrop hsnd hlfa hmid hlen
    generalize (U.mks (us.take i) k0).1 = pre at hn1 hpl hlen' ⊢
    generalize (U.mks (us.take i) k0).2 = kk at hn1 hn2 hkp hkb ⊢
    generalize hpost : us.drop (i + 1) = post at hlen' ⊢
    rw [List.length_append, List.length_cons] at hlen'
    refine V_seq (V_block ?_)
    have ht0 := markText_all (kk) (by omega) (by omega)
    repeat (first | refine gGP ?_ | refine qO (Q_index_own rfl rfl .ownp rfl TE.h TI.h (by omega) (by rw [List.length_append, List.length_cons]; omega)) ?_ | refine qQ (Q_index_own rfl rfl .ownp rfl TE.h TI.h (by omega) (by rw [List.length_append, List.length_cons]; omega)) ?_ | refine qO (Q_call rfl ht0 vA) ?_ | refine qQ (Q_call rfl ht0 vA) ?_)
    refine VR_storeF (v := .s (txt (kk))) rfl rfl .ownp hpl rfl rfl TI.h (by repeat constructor) .ownp (by repeat constructor) ?_
    have hm1 := ih0 a_0 a_1 a_2_0 a_2_1 a_2_2 a_2_3 a_2_4_0 a_2_4_1 a_2_4_2 a_2_5 a_2_6 a_2_7 a_2_8 hmem (kk + 1) (by omega) (by simp only [U.lf]; omega)
    change MSpec _ _ _ _ (.sl 1 (U.mks a_1 (kk + 1)).1) (U.mks a_1 (kk + 1)).2 at hm1
    have hs1 := mks_snd a_1 (kk + 1)
    repeat (first | refine gGP ?_ | refine qO (Q_index_own rfl rfl .ownp rfl TE.h TI.h (by omega) (by rw [List.length_append, List.length_cons]; omega)) ?_ | refine qQ (Q_index_own rfl rfl .ownp rfl TE.h TI.h (by omega) (by rw [List.length_append, List.length_cons]; omega)) ?_)
    refine VR_markcall hm1 rfl rfl .ownp hpl TI.h (by repeat constructor) rfl rfl (by simp) .ownp (by repeat constructor) rfl rfl rfl (by decide) ?_
    repeat (first | refine gGP ?_ | refine qO (Q_index_own rfl rfl .ownp rfl TE.h TI.h (by omega) (by rw [List.length_append, List.length_cons]; omega)) ?_ | refine qQ (Q_index_own rfl rfl .ownp rfl TE.h TI.h (by omega) (by rw [List.length_append, List.length_cons]; omega)) ?_)
    refine VR_storeF (v := .i .i64 ((U.mks a_1 (kk + 1)).2)) rfl rfl .ownp hpl rfl rfl TI.h (by repeat constructor) .ownp (by repeat constructor) ?_
    have ht3 := markText_all ((U.mks a_1 (kk + 1)).2 + 1) (by omega) (by omega)
    repeat (first | refine gGP ?_ | refine qO (Q_index_own rfl rfl .ownp rfl TE.h TI.h (by omega) (by rw [List.length_append, List.length_cons]; omega)) ?_ | refine qQ (Q_index_own rfl rfl .ownp rfl TE.h TI.h (by omega) (by rw [List.length_append, List.length_cons]; omega)) ?_ | refine qO (Q_call rfl ht3 vA) ?_ | refine qQ (Q_call rfl ht3 vA) ?_)
    refine VR_storeF (v := .s (txt ((U.mks a_1 (kk + 1)).2 + 1))) rfl rfl .ownp hpl rfl rfl TI.h (by repeat constructor) .ownp (by repeat constructor) ?_
    have ht4 := markText_all ((U.mks a_1 (kk + 1)).2 + 1 + 1) (by omega) (by omega)
    repeat (first | refine gGP ?_ | refine qO (Q_index_own rfl rfl .ownp rfl TE.h TI.h (by omega) (by rw [List.length_append, List.length_cons]; omega)) ?_ | refine qQ (Q_index_own rfl rfl .ownp rfl TE.h TI.h (by omega) (by rw [List.length_append, List.length_cons]; omega)) ?_ | refine qO (Q_call rfl ht4 vA) ?_ | refine qQ (Q_call rfl ht4 vA) ?_)
    refine VR_storeF (v := .s (txt ((U.mks a_1 (kk + 1)).2 + 1 + 1))) rfl rfl .ownp hpl rfl rfl TI.h (by repeat constructor) .ownp (by repeat constructor) ?_
    repeat (first | refine gGP ?_ | refine qO (Q_index_own rfl rfl .ownp rfl TE.h TI.h (by omega) (by rw [List.length_append, List.length_cons]; omega)) ?_ | refine qQ (Q_index_own rfl rfl .ownp rfl TE.h TI.h (by omega) (by rw [List.length_append, List.length_cons]; omega)) ?_)
    refine VR_storeF (v := .i .i64 ((U.mks a_1 (kk + 1)).2 + 1 + 1 + 1)) rfl rfl .ownp hpl rfl rfl TI.h (by repeat constructor) .ownp (by repeat constructor) ?_
    repeat (first | refine gGP ?_ | refine qO (Q_index_own rfl rfl .ownp rfl TE.h TI.h (by omega) (by rw [List.length_append, List.length_cons]; omega)) ?_ | refine qQ (Q_index_own rfl rfl .ownp rfl TE.h TI.h (by omega) (by rw [List.length_append, List.length_cons]; omega)) ?_)
    refine VR_storeF (v := .i .i64 ((U.mks a_1 (kk + 1)).2 + 1 + 1 + 1 + 1)) rfl rfl .ownp hpl rfl rfl TI.h (by repeat constructor) .ownp (by repeat constructor) ?_
    have ht7 := markText_all ((U.mks a_1 (kk + 1)).2 + 1 + 1 + 1 + 1 + 1) (by omega) (by omega)
    repeat (first | refine gGP ?_ | refine qO (Q_index_own rfl rfl .ownp rfl TE.h TI.h (by omega) (by rw [List.length_append, List.length_cons]; omega)) ?_ | refine qQ (Q_index_own rfl rfl .ownp rfl TE.h TI.h (by omega) (by rw [List.length_append, List.length_cons]; omega)) ?_ | refine qO (Q_call rfl ht7 vA) ?_ | refine qQ (Q_call rfl ht7 vA) ?_)
    refine VR_storeF (v := .s (txt ((U.mks a_1 (kk + 1)).2 + 1 + 1 + 1 + 1 + 1))) rfl rfl .ownp hpl rfl rfl TI.h (by repeat constructor) .ownp (by repeat constructor) ?_
    have hm8 := ih1 a_0 a_1 a_2_0 a_2_1 a_2_2 a_2_3 a_2_4_0 a_2_4_1 a_2_4_2 a_2_5 a_2_6 a_2_7 a_2_8 hmem ((U.mks a_1 (kk + 1)).2 + 1 + 1 + 1 + 1 + 1 + 1) (by omega) (by simp only [U.lf]; omega)
    change MSpec _ _ _ _ (.sl 3 (U.mks a_2_4_2 ((U.mks a_1 (kk + 1)).2 + 1 + 1 + 1 + 1 + 1 + 1)).1) (U.mks a_2_4_2 ((U.mks a_1 (kk + 1)).2 + 1 + 1 + 1 + 1 + 1 + 1)).2 at hm8
    have hs8 := mks_snd a_2_4_2 ((U.mks a_1 (kk + 1)).2 + 1 + 1 + 1 + 1 + 1 + 1)
    repeat (first | refine gGP ?_ | refine qO (Q_index_own rfl rfl .ownp rfl TE.h TI.h (by omega) (by rw [List.length_append, List.length_cons]; omega)) ?_ | refine qQ (Q_index_own rfl rfl .ownp rfl TE.h TI.h (by omega) (by rw [List.length_append, List.length_cons]; omega)) ?_)
    refine VR_markcall hm8 rfl rfl .ownp hpl TI.h (by repeat constructor) rfl rfl (by simp) .ownp (by repeat constructor) rfl rfl rfl (by decide) ?_
    have hm9 := ih2 a_0 a_1 a_2_0 a_2_1 a_2_2 a_2_3 a_2_4_0 a_2_4_1 a_2_4_2 a_2_5 a_2_6 a_2_7 a_2_8 hmem ((U.mks a_2_4_2 ((U.mks a_1 (kk + 1)).2 + 1 + 1 + 1 + 1 + 1 + 1)).2) (by omega) (by simp only [U.lf]; omega)
    change MSpec _ _ _ _ (.sl 3 (U.mks a_2_5 ((U.mks a_2_4_2 ((U.mks a_1 (kk + 1)).2 + 1 + 1 + 1 + 1 + 1 + 1)).2)).1) (U.mks a_2_5 ((U.mks a_2_4_2 ((U.mks a_1 (kk + 1)).2 + 1 + 1 + 1 + 1 + 1 + 1)).2)).2 at hm9
    have hs9 := mks_snd a_2_5 ((U.mks a_2_4_2 ((U.mks a_1 (kk + 1)).2 + 1 + 1 + 1 + 1 + 1 + 1)).2)
    repeat (first | refine gGP ?_ | refine qO (Q_index_own rfl rfl .ownp rfl TE.h TI.h (by omega) (by rw [List.length_append, List.length_cons]; omega)) ?_ | refine qQ (Q_index_own rfl rfl .ownp rfl TE.h TI.h (by omega) (by rw [List.length_append, List.length_cons]; omega)) ?_)
    refine VR_markcall hm9 rfl rfl .ownp hpl TI.h (by repeat constructor) rfl rfl (by simp) .ownp (by repeat constructor) rfl rfl rfl (by decide) ?_
    have hm10 := ih3 a_0 a_1 a_2_0 a_2_1 a_2_2 a_2_3 a_2_4_0 a_2_4_1 a_2_4_2 a_2_5 a_2_6 a_2_7 a_2_8 hmem ((U.mks a_2_5 ((U.mks a_2_4_2 ((U.mks a_1 (kk + 1)).2 + 1 + 1 + 1 + 1 + 1 + 1)).2)).2) (by omega) (by simp only [U.lf]; omega)
    change MSpec _ _ _ _ (.sl 5 (U.mks a_2_6 ((U.mks a_2_5 ((U.mks a_2_4_2 ((U.mks a_1 (kk + 1)).2 + 1 + 1 + 1 + 1 + 1 + 1)).2)).2)).1) (U.mks a_2_6 ((U.mks a_2_5 ((U.mks a_2_4_2 ((U.mks a_1 (kk + 1)).2 + 1 + 1 + 1 + 1 + 1 + 1)).2)).2)).2 at hm10
    have hs10 := mks_snd a_2_6 ((U.mks a_2_5 ((U.mks a_2_4_2 ((U.mks a_1 (kk + 1)).2 + 1 + 1 + 1 + 1 + 1 + 1)).2)).2)
    repeat (first | refine gGP ?_ | refine qO (Q_index_own rfl rfl .ownp rfl TE.h TI.h (by omega) (by rw [List.length_append, List.length_cons]; omega)) ?_ | refine qQ (Q_index_own rfl rfl .ownp rfl TE.h TI.h (by omega) (by rw [List.length_append, List.length_cons]; omega)) ?_)
    refine VR_markcall hm10 rfl rfl .ownp hpl TI.h (by repeat constructor) rfl rfl (by simp) .ownp (by repeat constructor) rfl rfl rfl (by decide) ?_
    have hm11 := ih4 a_0 a_1 a_2_0 a_2_1 a_2_2 a_2_3 a_2_4_0 a_2_4_1 a_2_4_2 a_2_5 a_2_6 a_2_7 a_2_8 hmem ((U.mks a_2_6 ((U.mks a_2_5 ((U.mks a_2_4_2 ((U.mks a_1 (kk + 1)).2 + 1 + 1 + 1 + 1 + 1 + 1)).2)).2)).2) (by omega) (by simp only [U.lf]; omega)
    change MSpec _ _ _ _ (.sl 11 (U.mks a_2_7 ((U.mks a_2_6 ((U.mks a_2_5 ((U.mks a_2_4_2 ((U.mks a_1 (kk + 1)).2 + 1 + 1 + 1 + 1 + 1 + 1)).2)).2)).2)).1) (U.mks a_2_7 ((U.mks a_2_6 ((U.mks a_2_5 ((U.mks a_2_4_2 ((U.mks a_1 (kk + 1)).2 + 1 + 1 + 1 + 1 + 1 + 1)).2)).2)).2)).2 at hm11
    have hs11 := mks_snd a_2_7 ((U.mks a_2_6 ((U.mks a_2_5 ((U.mks a_2_4_2 ((U.mks a_1 (kk + 1)).2 + 1 + 1 + 1 + 1 + 1 + 1)).2)).2)).2)
    repeat (first | refine gGP ?_ | refine qO (Q_index_own rfl rfl .ownp rfl TE.h TI.h (by omega) (by rw [List.length_append, List.length_cons]; omega)) ?_ | refine qQ (Q_index_own rfl rfl .ownp rfl TE.h TI.h (by omega) (by rw [List.length_append, List.length_cons]; omega)) ?_)
    refine VR_markcall hm11 rfl rfl .ownp hpl TI.h (by repeat constructor) rfl rfl (by simp) .ownp (by repeat constructor) rfl rfl rfl (by decide) ?_
    have hm12 := ih5 a_0 a_1 a_2_0 a_2_1 a_2_2 a_2_3 a_2_4_0 a_2_4_1 a_2_4_2 a_2_5 a_2_6 a_2_7 a_2_8 hmem ((U.mks a_2_7 ((U.mks a_2_6 ((U.mks a_2_5 ((U.mks a_2_4_2 ((U.mks a_1 (kk + 1)).2 + 1 + 1 + 1 + 1 + 1 + 1)).2)).2)).2)).2) (by omega) (by simp only [U.lf]; omega)
    change MSpec _ _ _ _ (.sl 13 (U.mks a_2_8 ((U.mks a_2_7 ((U.mks a_2_6 ((U.mks a_2_5 ((U.mks a_2_4_2 ((U.mks a_1 (kk + 1)).2 + 1 + 1 + 1 + 1 + 1 + 1)).2)).2)).2)).2)).1) (U.mks a_2_8 ((U.mks a_2_7 ((U.mks a_2_6 ((U.mks a_2_5 ((U.mks a_2_4_2 ((U.mks a_1 (kk + 1)).2 + 1 + 1 + 1 + 1 + 1 + 1)).2)).2)).2)).2)).2 at hm12
    have hs12 := mks_snd a_2_8 ((U.mks a_2_7 ((U.mks a_2_6 ((U.mks a_2_5 ((U.mks a_2_4_2 ((U.mks a_1 (kk + 1)).2 + 1 + 1 + 1 + 1 + 1 + 1)).2)).2)).2)).2)
    repeat (first | refine gGP ?_ | refine qO (Q_index_own rfl rfl .ownp rfl TE.h TI.h (by omega) (by rw [List.length_append, List.length_cons]; omega)) ?_ | refine qQ (Q_index_own rfl rfl .ownp rfl TE.h TI.h (by omega) (by rw [List.length_append, List.length_cons]; omega)) ?_)
    refine VR_markcall hm12 rfl rfl .ownp hpl TI.h (by repeat constructor) rfl rfl (by simp) .ownp (by repeat constructor) rfl rfl rfl (by decide) ?_
    refine gGO ?_
    refine ⟨i + 1, by omega, by omega, ⟨rfl, ⟨⟨rfl, rfl⟩, ⟨?_, rfl⟩, ⟨rfl, rfl⟩, trivial⟩, ⟨[], ?_⟩, rfl⟩⟩
    · rw [hn2]; rfl
    · rw [hn1, hpost, List.append_assoc]; rfl
  · refine V_exit ?_
    simp only [decide_eq_false_iff_not] at hc2
    rw [hlen] at hc2
    have hkl : i = us.length := by omega
    subst hkl
    show V _ _ _ _ _
    refine gGO ?_
    refine V_ret ?_
    refine ⟨trivial, ?_, [], ?_⟩
    · show SV.d (.i .i64 (U.mks (us.take us.length) k0).2) = _
      rw [List.take_length]
    · simp only [List.take_length, List.drop_length, List.append_nil]
set_option maxRecDepth 8000 in
set_option maxHeartbeats 8000000 in
theorem markCoreS_step {us : List U} (hl : us.length ≤ big) (hz : ∀ a ∈ us, wt (.st 21) a) (ih0 : ∀ (a_0 : Int) (a_1 : List UInt8) (a_2 : List UInt8) (a_3 : Int) (a_4_0 : Int) (a_4_1 : List UInt8) (a_4_2 : List U) (a_5 : List U) (a_6 : List U) (a_7 : List U) (a_8 : List U), .st [.i .i64 a_0, .s a_1, .s a_2, .i .i64 a_3, .st [.i .i64 a_4_0, .s a_4_1, .sl 3 a_4_2], .sl 3 a_5, .sl 5 a_6, .sl 11 a_7, .sl 13 a_8] ∈ us → PMk 61 (.sl 3 a_4_2)) (ih1 : ∀ (a_0 : Int) (a_1 : List UInt8) (a_2 : List UInt8) (a_3 : Int) (a_4_0 : Int) (a_4_1 : List UInt8) (a_4_2 : List U) (a_5 : List U) (a_6 : List U) (a_7 : List U) (a_8 : List U), .st [.i .i64 a_0, .s a_1, .s a_2, .i .i64 a_3, .st [.i .i64 a_4_0, .s a_4_1, .sl 3 a_4_2], .sl 3 a_5, .sl 5 a_6, .sl 11 a_7, .sl 13 a_8] ∈ us → PMk 61 (.sl 3 a_5)) (ih2 : ∀ (a_0 : Int) (a_1 : List UInt8) (a_2 : List UInt8) (a_3 : Int) (a_4_0 : Int) (a_4_1 : List UInt8) (a_4_2 : List U) (a_5 : List U) (a_6 : List U) (a_7 : List U) (a_8 : List U), .st [.i .i64 a_0, .s a_1, .s a_2, .i .i64 a_3, .st [.i .i64 a_4_0, .s a_4_1, .sl 3 a_4_2], .sl 3 a_5, .sl 5 a_6, .sl 11 a_7, .sl 13 a_8] ∈ us → PMk 62 (.sl 5 a_6)) (ih3 : ∀ (a_0 : Int) (a_1 : List UInt8) (a_2 : List UInt8) (a_3 : Int) (a_4_0 : Int) (a_4_1 : List UInt8) (a_4_2 : List U) (a_5 : List U) (a_6 : List U) (a_7 : List U) (a_8 : List U), .st [.i .i64 a_0, .s a_1, .s a_2, .i .i64 a_3, .st [.i .i64 a_4_0, .s a_4_1, .sl 3 a_4_2], .sl 3 a_5, .sl 5 a_6, .sl 11 a_7, .sl 13 a_8] ∈ us → PMk 63 (.sl 11 a_7)) (ih4 : ∀ (a_0 : Int) (a_1 : List UInt8) (a_2 : List UInt8) (a_3 : Int) (a_4_0 : Int) (a_4_1 : List UInt8) (a_4_2 : List U) (a_5 : List U) (a_6 : List U) (a_7 : List U) (a_8 : List U), .st [.i .i64 a_0, .s a_1, .s a_2, .i .i64 a_3, .st [.i .i64 a_4_0, .s a_4_1, .sl 3 a_4_2], .sl 3 a_5, .sl 5 a_6, .sl 11 a_7, .sl 13 a_8] ∈ us → PMk 64 (.sl 13 a_8)) : PMk 63 (.sl 11 us) := by
  intro k0 hk0 hk1
  have hlf : (U.sl 11 us).lf = U.lfs us := rfl
  rw [hlf] at hk1
  rw [big_eq] at hl
  show MSpec _ _ _ _ (.sl 11 (U.mks us k0).1) (U.mks us k0).2
  refine MSpec_intro (fun hv e => [.ownp (hv 0) (e 0) 11 us]) (fun hv e => [.ownp (hv 0) (e 0) 11 (U.mks us k0).1]) Tryz.func63 rfl (by kernel_rfl) rfl rfl (fun _ _ => .sl) (fun _ _ => .sl) rfl rfl fun A hv e _ => ?_
  refine gGO ?_
  refine V_block ?_
  refine V_loop (α := Nat)
    (fun i => ⟨[(0, .sl 0 0), (1, .d (.i .i64 (U.mks (us.take i) k0).2)), (5, .d (.i .i64 i))], [.ownp (hv 0) (e 0) 11 ((U.mks (us.take i) k0).1 ++ us.drop i)], Tryz.f63.ntmps⟩)
    (fun i => i ≤ us.length)
    (fun i => us.length - i) 0 ⟨rfl, ⟨⟨rfl, rfl⟩, ⟨rfl, rfl⟩, ⟨rfl, rfl⟩, trivial⟩, ⟨[], rfl⟩, rfl⟩ (by simp) ?_
  intro i hi
  have hlen : ((U.mks (us.take i) k0).1 ++ us.drop i).length = us.length := by simp [mks_len]; omega
  refine gGO ?_
  (first | refine V_cond rfl (fun hc2 => ?_) (fun hc2 => ?_) | refine V_seq (V_cond rfl (fun hc2 => ?_) (fun hc2 => ?_)))
  · refine V_skip ?_
    simp only [decide_eq_true_eq] at hc2
    rw [hlen] at hc2
    have hil : i < us.length := by omega
    obtain ⟨a, hget⟩ : ∃ a, us[i]? = some a := ⟨_, List.getElem?_eq_getElem hil⟩
    have hmem := List.mem_of_getElem? hget
    have hdrop := drop_get hget
    obtain ⟨hn1, hn2⟩ := mks_next hget k0
    have hmid := lfs_mid hget
    have hsnd := mks_snd (us.take i) k0
    have hpl : (U.mks (us.take i) k0).1.length = i := by simp [mks_len]; omega
    have hwa := hz a hmem
    obtain ⟨a_0, a_1, a_2, a_3, a_4, a_5, a_6, a_7, a_8, rfl, hwa_0, hwa_1, hwa_2, hwa_3, hwa_4, hwa_5, hwa_6, hwa_7, hwa_8⟩ := inv_Core hwa
    obtain ⟨a_4_0, a_4_1, a_4_2, rfl, hwa_4_0, hwa_4_1, hwa_4_2⟩ := inv_Type hwa_4
    have hlfa : ((.st [.i .i64 a_0, .s a_1, .s a_2, .i .i64 a_3, .st [.i .i64 a_4_0, .s a_4_1, .sl 3 a_4_2], .sl 3 a_5, .sl 5 a_6, .sl 11 a_7, .sl 13 a_8]) : U).lf = 0 + 1 + 1 + 1 + 1 + 1 + 1 + U.lfs a_4_2 + U.lfs a_5 + U.lfs a_6 + U.lfs a_7 + U.lfs a_8 := by simp [U.lf, U.lfs] <;> omega
    rw [hlfa] at hmid
    refine V_cast [.ownp (hv 0) (e 0) 11 ((U.mks (us.take i) k0).1 ++ (.st [.i .i64 a_0, .s a_1, .s a_2, .i .i64 a_3, .st [.i .i64 a_4_0, .s a_4_1, .sl 3 a_4_2], .sl 3 a_5, .sl 5 a_6, .sl 11 a_7, .sl 13 a_8]) :: us.drop (i + 1))] (by rw [hdrop]) ?_
    have hkp : 0 < (U.mks (us.take i) k0).2 := by omega
    have hkb : (U.mks (us.take i) k0).2 + (0 + 1 + 1 + 1 + 1 + 1 + 1 + U.lfs a_4_2 + U.lfs a_5 + U.lfs a_6 + U.lfs a_7 + U.lfs a_8 : Nat) ≤ 4611686018427387904 := by omega
    have hlen' : ((U.mks (us.take i) k0).1 ++ (.st [.i .i64 a_0, .s a_1, .s a_2, .i .i64 a_3, .st [.i .i64 a_4_0, .s a_4_1, .sl 3 a_4_2], .sl 3 a_5, .sl 5 a_6, .sl 11 a_7, .sl 13 a_8]) :: us.drop (i + 1)).length = us.length := by rw [← hdrop]; exact hlen
    clear hdrop hsnd hlfa hmid hlen
    generalize (U.mks (us.take i) k0).1 = pre at hn1 hpl hlen' ⊢
    generalize (U.mks (us.take i) k0).2 = kk at hn1 hn2 hkp hkb ⊢
    generalize hpost : us.drop (i + 1) = post at hlen' ⊢
    rw [List.length_append, List.length_cons] at hlen'
    refine V_seq (V_block ?_)
    repeat (first | refine gGP ?_ | refine qO (Q_index_own rfl rfl .ownp rfl TE.h TI.h (by omega) (by rw [List.length_append, List.length_cons]; omega)) ?_ | refine qQ (Q_index_own rfl rfl .ownp rfl TE.h TI.h (by omega) (by rw [List.length_append, List.length_cons]; omega)) ?_)
    refine VR_storeF (v := .i .i64 (kk)) rfl rfl .ownp hpl rfl rfl TI.h (by repeat constructor) .ownp (by repeat constructor) ?_
    have ht1 := markText_all (kk + 1) (by omega) (by omega)
    repeat (first | refine gGP ?_ | refine qO (Q_index_own rfl rfl .ownp rfl TE.h TI.h (by omega) (by rw [List.length_append, List.length_cons]; omega)) ?_ | refine qQ (Q_index_own rfl rfl .ownp rfl TE.h TI.h (by omega) (by rw [List.length_append, List.length_cons]; omega)) ?_ | refine qO (Q_call rfl ht1 vA) ?_ | refine qQ (Q_call rfl ht1 vA) ?_)
    refine VR_storeF (v := .s (txt (kk + 1))) rfl rfl .ownp hpl rfl rfl TI.h (by repeat constructor) .ownp (by repeat constructor) ?_
    have ht2 := markText_all (kk + 1 + 1) (by omega) (by omega)
    repeat (first | refine gGP ?_ | refine qO (Q_index_own rfl rfl .ownp rfl TE.h TI.h (by omega) (by rw [List.length_append, List.length_cons]; omega)) ?_ | refine qQ (Q_index_own rfl rfl .ownp rfl TE.h TI.h (by omega) (by rw [List.length_append, List.length_cons]; omega)) ?_ | refine qO (Q_call rfl ht2 vA) ?_ | refine qQ (Q_call rfl ht2 vA) ?_)
    refine VR_storeF (v := .s (txt (kk + 1 + 1))) rfl rfl .ownp hpl rfl rfl TI.h (by repeat constructor) .ownp (by repeat constructor) ?_
    repeat (first | refine gGP ?_ | refine qO (Q_index_own rfl rfl .ownp rfl TE.h TI.h (by omega) (by rw [List.length_append, List.length_cons]; omega)) ?_ | refine qQ (Q_index_own rfl rfl .ownp rfl TE.h TI.h (by omega) (by rw [List.length_append, List.length_cons]; omega)) ?_)
    refine VR_storeF (v := .i .i64 (kk + 1 + 1 + 1)) rfl rfl .ownp hpl rfl rfl TI.h (by repeat constructor) .ownp (by repeat constructor) ?_
    repeat (first | refine gGP ?_ | refine qO (Q_index_own rfl rfl .ownp rfl TE.h TI.h (by omega) (by rw [List.length_append, List.length_cons]; omega)) ?_ | refine qQ (Q_index_own rfl rfl .ownp rfl TE.h TI.h (by omega) (by rw [List.length_append, List.length_cons]; omega)) ?_)
    refine VR_storeF (v := .i .i64 (kk + 1 + 1 + 1 + 1)) rfl rfl .ownp hpl rfl rfl TI.h (by repeat constructor) .ownp (by repeat constructor) ?_
    have ht5 := markText_all (kk + 1 + 1 + 1 + 1 + 1) (by omega) (by omega)
    repeat (first | refine gGP ?_ | refine qO (Q_index_own rfl rfl .ownp rfl TE.h TI.h (by omega) (by rw [List.length_append, List.length_cons]; omega)) ?_ | refine qQ (Q_index_own rfl rfl .ownp rfl TE.h TI.h (by omega) (by rw [List.length_append, List.length_cons]; omega)) ?_ | refine qO (Q_call rfl ht5 vA) ?_ | refine qQ (Q_call rfl ht5 vA) ?_)
    refine VR_storeF (v := .s (txt (kk + 1 + 1 + 1 + 1 + 1))) rfl rfl .ownp hpl rfl rfl TI.h (by repeat constructor) .ownp (by repeat constructor) ?_
    have hm6 := ih0 a_0 a_1 a_2 a_3 a_4_0 a_4_1 a_4_2 a_5 a_6 a_7 a_8 hmem (kk + 1 + 1 + 1 + 1 + 1 + 1) (by omega) (by simp only [U.lf]; omega)
    change MSpec _ _ _ _ (.sl 3 (U.mks a_4_2 (kk + 1 + 1 + 1 + 1 + 1 + 1)).1) (U.mks a_4_2 (kk + 1 + 1 + 1 + 1 + 1 + 1)).2 at hm6
    have hs6 := mks_snd a_4_2 (kk + 1 + 1 + 1 + 1 + 1 + 1)
    repeat (first | refine gGP ?_ | refine qO (Q_index_own rfl rfl .ownp rfl TE.h TI.h (by omega) (by rw [List.length_append, List.length_cons]; omega)) ?_ | refine qQ (Q_index_own rfl rfl .ownp rfl TE.h TI.h (by omega) (by rw [List.length_append, List.length_cons]; omega)) ?_)
    refine VR_markcall hm6 rfl rfl .ownp hpl TI.h (by repeat constructor) rfl rfl (by simp) .ownp (by repeat constructor) rfl rfl rfl (by decide) ?_
    have hm7 := ih1 a_0 a_1 a_2 a_3 a_4_0 a_4_1 a_4_2 a_5 a_6 a_7 a_8 hmem ((U.mks a_4_2 (kk + 1 + 1 + 1 + 1 + 1 + 1)).2) (by omega) (by simp only [U.lf]; omega)
    change MSpec _ _ _ _ (.sl 3 (U.mks a_5 ((U.mks a_4_2 (kk + 1 + 1 + 1 + 1 + 1 + 1)).2)).1) (U.mks a_5 ((U.mks a_4_2 (kk + 1 + 1 + 1 + 1 + 1 + 1)).2)).2 at hm7
    have hs7 := mks_snd a_5 ((U.mks a_4_2 (kk + 1 + 1 + 1 + 1 + 1 + 1)).2)
    repeat (first | refine gGP ?_ | refine qO (Q_index_own rfl rfl .ownp rfl TE.h TI.h (by omega) (by rw [List.length_append, List.length_cons]; omega)) ?_ | refine qQ (Q_index_own rfl rfl .ownp rfl TE.h TI.h (by omega) (by rw [List.length_append, List.length_cons]; omega)) ?_)
    refine VR_markcall hm7 rfl rfl .ownp hpl TI.h (by repeat constructor) rfl rfl (by simp) .ownp (by repeat constructor) rfl rfl rfl (by decide) ?_
    have hm8 := ih2 a_0 a_1 a_2 a_3 a_4_0 a_4_1 a_4_2 a_5 a_6 a_7 a_8 hmem ((U.mks a_5 ((U.mks a_4_2 (kk + 1 + 1 + 1 + 1 + 1 + 1)).2)).2) (by omega) (by simp only [U.lf]; omega)
    change MSpec _ _ _ _ (.sl 5 (U.mks a_6 ((U.mks a_5 ((U.mks a_4_2 (kk + 1 + 1 + 1 + 1 + 1 + 1)).2)).2)).1) (U.mks a_6 ((U.mks a_5 ((U.mks a_4_2 (kk + 1 + 1 + 1 + 1 + 1 + 1)).2)).2)).2 at hm8
    have hs8 := mks_snd a_6 ((U.mks a_5 ((U.mks a_4_2 (kk + 1 + 1 + 1 + 1 + 1 + 1)).2)).2)
    repeat (first | refine gGP ?_ | refine qO (Q_index_own rfl rfl .ownp rfl TE.h TI.h (by omega) (by rw [List.length_append, List.length_cons]; omega)) ?_ | refine qQ (Q_index_own rfl rfl .ownp rfl TE.h TI.h (by omega) (by rw [List.length_append, List.length_cons]; omega)) ?_)
    refine VR_markcall hm8 rfl rfl .ownp hpl TI.h (by repeat constructor) rfl rfl (by simp) .ownp (by repeat constructor) rfl rfl rfl (by decide) ?_
    have hm9 := ih3 a_0 a_1 a_2 a_3 a_4_0 a_4_1 a_4_2 a_5 a_6 a_7 a_8 hmem ((U.mks a_6 ((U.mks a_5 ((U.mks a_4_2 (kk + 1 + 1 + 1 + 1 + 1 + 1)).2)).2)).2) (by omega) (by simp only [U.lf]; omega)
    change MSpec _ _ _ _ (.sl 11 (U.mks a_7 ((U.mks a_6 ((U.mks a_5 ((U.mks a_4_2 (kk + 1 + 1 + 1 + 1 + 1 + 1)).2)).2)).2)).1) (U.mks a_7 ((U.mks a_6 ((U.mks a_5 ((U.mks a_4_2 (kk + 1 + 1 + 1 + 1 + 1 + 1)).2)).2)).2)).2 at hm9
    have hs9 := mks_snd a_7 ((U.mks a_6 ((U.mks a_5 ((U.mks a_4_2 (kk + 1 + 1 + 1 + 1 + 1 + 1)).2)).2)).2)
    repeat (first | refine gGP ?_ | refine qO (Q_index_own rfl rfl .ownp rfl TE.h TI.h (by omega) (by rw [List.length_append, List.length_cons]; omega)) ?_ | refine qQ (Q_index_own rfl rfl .ownp rfl TE.h TI.h (by omega) (by rw [List.length_append, List.length_cons]; omega)) ?_)
    refine VR_markcall hm9 rfl rfl .ownp hpl TI.h (by repeat constructor) rfl rfl (by simp) .ownp (by repeat constructor) rfl rfl rfl (by decide) ?_
    have hm10 := ih4 a_0 a_1 a_2 a_3 a_4_0 a_4_1 a_4_2 a_5 a_6 a_7 a_8 hmem ((U.mks a_7 ((U.mks a_6 ((U.mks a_5 ((U.mks a_4_2 (kk + 1 + 1 + 1 + 1 + 1 + 1)).2)).2)).2)).2) (by omega) (by simp only [U.lf]; omega)
    change MSpec _ _ _ _ (.sl 13 (U.mks a_8 ((U.mks a_7 ((U.mks a_6 ((U.mks a_5 ((U.mks a_4_2 (kk + 1 + 1 + 1 + 1 + 1 + 1)).2)).2)).2)).2)).1) (U.mks a_8 ((U.mks a_7 ((U.mks a_6 ((U.mks a_5 ((U.mks a_4_2 (kk + 1 + 1 + 1 + 1 + 1 + 1)).2)).2)).2)).2)).2 at hm10
    have hs10 := mks_snd a_8 ((U.mks a_7 ((U.mks a_6 ((U.mks a_5 ((U.mks a_4_2 (kk + 1 + 1 + 1 + 1 + 1 + 1)).2)).2)).2)).2)
    repeat (first | refine gGP ?_ | refine qO (Q_index_own rfl rfl .ownp rfl TE.h TI.h (by omega) (by rw [List.length_append, List.length_cons]; omega)) ?_ | refine qQ (Q_index_own rfl rfl .ownp rfl TE.h TI.h (by omega) (by rw [List.length_append, List.length_cons]; omega)) ?_)
    refine VR_markcall hm10 rfl rfl .ownp hpl TI.h (by repeat constructor) rfl rfl (by simp) .ownp (by repeat constructor) rfl rfl rfl (by decide) ?_
    refine gGO ?_
    refine ⟨i + 1, by omega, by omega, ⟨rfl, ⟨⟨rfl, rfl⟩, ⟨?_, rfl⟩, ⟨rfl, rfl⟩, trivial⟩, ⟨[], ?_⟩, rfl⟩⟩
    · rw [hn2]; rfl
    · rw [hn1, hpost, List.append_assoc]; rfl
  · refine V_exit ?_
    simp only [decide_eq_false_iff_not] at hc2
    rw [hlen] at hc2
    have hkl : i = us.length := by omega
    subst hkl
    show V _ _ _ _ _
    refine gGO ?_
    refine V_ret ?_
    refine ⟨trivial, ?_, [], ?_⟩
    · show SV.d (.i .i64 (U.mks (us.take us.length) k0).2) = _
      rw [List.take_length]
    · simp only [List.take_length, List.drop_length, List.append_nil]
theorem markCoreArmCore_grp (u : U) : (∀ us, u = .sl 13 us → us.length ≤ big → (∀ x ∈ us, wt (.st 20) x) → PMk 64 u) ∧ (∀ us, u = .sl 11 us → us.length ≤ big → (∀ x ∈ us, wt (.st 21) x) → PMk 63 u) := by
  refine U.ind (M := fun u => (∀ us, u = .sl 13 us → us.length ≤ big → (∀ x ∈ us, wt (.st 20) x) → PMk 64 u) ∧ (∀ us, u = .sl 11 us → us.length ≤ big → (∀ x ∈ us, wt (.st 21) x) → PMk 63 u)) (fun u ih => ?_) u
  refine ⟨?_, ?_⟩
  · rintro us rfl hl hz
    exact markCoreArmS_step hl hz (fun a_0 a_1 a_2_0 a_2_1 a_2_2 a_2_3 a_2_4_0 a_2_4_1 a_2_4_2 a_2_5 a_2_6 a_2_7 a_2_8 ha => by obtain ⟨_, _, _, hx_a, qa_0, qa_1, qa_2⟩ := inv_CoreArm (hz _ ha); cases hx_a; obtain ⟨_, _, _, _, _, _, _, _, _, hx_a_2, qa_2_0, qa_2_1, qa_2_2, qa_2_3, qa_2_4, qa_2_5, qa_2_6, qa_2_7, qa_2_8⟩ := inv_Core qa_2; cases hx_a_2; obtain ⟨_, _, _, hx_a_2_4, qa_2_4_0, qa_2_4_1, qa_2_4_2⟩ := inv_Type qa_2_4; cases hx_a_2_4; exact markStringS_all qa_1) (fun a_0 a_1 a_2_0 a_2_1 a_2_2 a_2_3 a_2_4_0 a_2_4_1 a_2_4_2 a_2_5 a_2_6 a_2_7 a_2_8 ha => by obtain ⟨_, _, _, hx_a, qa_0, qa_1, qa_2⟩ := inv_CoreArm (hz _ ha); cases hx_a; obtain ⟨_, _, _, _, _, _, _, _, _, hx_a_2, qa_2_0, qa_2_1, qa_2_2, qa_2_3, qa_2_4, qa_2_5, qa_2_6, qa_2_7, qa_2_8⟩ := inv_Core qa_2; cases hx_a_2; obtain ⟨_, _, _, hx_a_2_4, qa_2_4_0, qa_2_4_1, qa_2_4_2⟩ := inv_Type qa_2_4; cases hx_a_2_4; exact markTypeS_all qa_2_4_2) (fun a_0 a_1 a_2_0 a_2_1 a_2_2 a_2_3 a_2_4_0 a_2_4_1 a_2_4_2 a_2_5 a_2_6 a_2_7 a_2_8 ha => by obtain ⟨_, _, _, hx_a, qa_0, qa_1, qa_2⟩ := inv_CoreArm (hz _ ha); cases hx_a; obtain ⟨_, _, _, _, _, _, _, _, _, hx_a_2, qa_2_0, qa_2_1, qa_2_2, qa_2_3, qa_2_4, qa_2_5, qa_2_6, qa_2_7, qa_2_8⟩ := inv_Core qa_2; cases hx_a_2; obtain ⟨_, _, _, hx_a_2_4, qa_2_4_0, qa_2_4_1, qa_2_4_2⟩ := inv_Type qa_2_4; cases hx_a_2_4; exact markTypeS_all qa_2_5) (fun a_0 a_1 a_2_0 a_2_1 a_2_2 a_2_3 a_2_4_0 a_2_4_1 a_2_4_2 a_2_5 a_2_6 a_2_7 a_2_8 ha => by obtain ⟨_, _, _, hx_a, qa_0, qa_1, qa_2⟩ := inv_CoreArm (hz _ ha); cases hx_a; obtain ⟨_, _, _, _, _, _, _, _, _, hx_a_2, qa_2_0, qa_2_1, qa_2_2, qa_2_3, qa_2_4, qa_2_5, qa_2_6, qa_2_7, qa_2_8⟩ := inv_Core qa_2; cases hx_a_2; obtain ⟨_, _, _, hx_a_2_4, qa_2_4_0, qa_2_4_1, qa_2_4_2⟩ := inv_Type qa_2_4; cases hx_a_2_4; exact markEvidenceS_all qa_2_6) (fun a_0 a_1 a_2_0 a_2_1 a_2_2 a_2_3 a_2_4_0 a_2_4_1 a_2_4_2 a_2_5 a_2_6 a_2_7 a_2_8 ha => by obtain ⟨_, _, _, hx_a, qa_0, qa_1, qa_2⟩ := inv_CoreArm (hz _ ha); cases hx_a; obtain ⟨_, _, _, _, _, _, _, _, _, hx_a_2, qa_2_0, qa_2_1, qa_2_2, qa_2_3, qa_2_4, qa_2_5, qa_2_6, qa_2_7, qa_2_8⟩ := inv_Core qa_2; cases hx_a_2; obtain ⟨_, _, _, hx_a_2_4, qa_2_4_0, qa_2_4_1, qa_2_4_2⟩ := inv_Type qa_2_4; cases hx_a_2_4; exact (ih (.sl 11 a_2_7) (by have := nn_of_mem ha; simp only [U.nn, U.nns] at this ⊢; omega)).2 a_2_7 rfl qa_2_7.1 qa_2_7.2) (fun a_0 a_1 a_2_0 a_2_1 a_2_2 a_2_3 a_2_4_0 a_2_4_1 a_2_4_2 a_2_5 a_2_6 a_2_7 a_2_8 ha => by obtain ⟨_, _, _, hx_a, qa_0, qa_1, qa_2⟩ := inv_CoreArm (hz _ ha); cases hx_a; obtain ⟨_, _, _, _, _, _, _, _, _, hx_a_2, qa_2_0, qa_2_1, qa_2_2, qa_2_3, qa_2_4, qa_2_5, qa_2_6, qa_2_7, qa_2_8⟩ := inv_Core qa_2; cases hx_a_2; obtain ⟨_, _, _, hx_a_2_4, qa_2_4_0, qa_2_4_1, qa_2_4_2⟩ := inv_Type qa_2_4; cases hx_a_2_4; exact (ih (.sl 13 a_2_8) (by have := nn_of_mem ha; simp only [U.nn, U.nns] at this ⊢; omega)).1 a_2_8 rfl qa_2_8.1 qa_2_8.2)
  · rintro us rfl hl hz
    exact markCoreS_step hl hz (fun a_0 a_1 a_2 a_3 a_4_0 a_4_1 a_4_2 a_5 a_6 a_7 a_8 ha => by obtain ⟨_, _, _, _, _, _, _, _, _, hx_a, qa_0, qa_1, qa_2, qa_3, qa_4, qa_5, qa_6, qa_7, qa_8⟩ := inv_Core (hz _ ha); cases hx_a; obtain ⟨_, _, _, hx_a_4, qa_4_0, qa_4_1, qa_4_2⟩ := inv_Type qa_4; cases hx_a_4; exact markTypeS_all qa_4_2) (fun a_0 a_1 a_2 a_3 a_4_0 a_4_1 a_4_2 a_5 a_6 a_7 a_8 ha => by obtain ⟨_, _, _, _, _, _, _, _, _, hx_a, qa_0, qa_1, qa_2, qa_3, qa_4, qa_5, qa_6, qa_7, qa_8⟩ := inv_Core (hz _ ha); cases hx_a; obtain ⟨_, _, _, hx_a_4, qa_4_0, qa_4_1, qa_4_2⟩ := inv_Type qa_4; cases hx_a_4; exact markTypeS_all qa_5) (fun a_0 a_1 a_2 a_3 a_4_0 a_4_1 a_4_2 a_5 a_6 a_7 a_8 ha => by obtain ⟨_, _, _, _, _, _, _, _, _, hx_a, qa_0, qa_1, qa_2, qa_3, qa_4, qa_5, qa_6, qa_7, qa_8⟩ := inv_Core (hz _ ha); cases hx_a; obtain ⟨_, _, _, hx_a_4, qa_4_0, qa_4_1, qa_4_2⟩ := inv_Type qa_4; cases hx_a_4; exact markEvidenceS_all qa_6) (fun a_0 a_1 a_2 a_3 a_4_0 a_4_1 a_4_2 a_5 a_6 a_7 a_8 ha => by obtain ⟨_, _, _, _, _, _, _, _, _, hx_a, qa_0, qa_1, qa_2, qa_3, qa_4, qa_5, qa_6, qa_7, qa_8⟩ := inv_Core (hz _ ha); cases hx_a; obtain ⟨_, _, _, hx_a_4, qa_4_0, qa_4_1, qa_4_2⟩ := inv_Type qa_4; cases hx_a_4; exact (ih (.sl 11 a_7) (by have := nn_of_mem ha; simp only [U.nn, U.nns] at this ⊢; omega)).2 a_7 rfl qa_7.1 qa_7.2) (fun a_0 a_1 a_2 a_3 a_4_0 a_4_1 a_4_2 a_5 a_6 a_7 a_8 ha => by obtain ⟨_, _, _, _, _, _, _, _, _, hx_a, qa_0, qa_1, qa_2, qa_3, qa_4, qa_5, qa_6, qa_7, qa_8⟩ := inv_Core (hz _ ha); cases hx_a; obtain ⟨_, _, _, hx_a_4, qa_4_0, qa_4_1, qa_4_2⟩ := inv_Type qa_4; cases hx_a_4; exact (ih (.sl 13 a_8) (by have := nn_of_mem ha; simp only [U.nn, U.nns] at this ⊢; omega)).1 a_8 rfl qa_8.1 qa_8.2)
theorem markCoreArmS_all {us : List U} (h : us.length ≤ big ∧ ∀ x ∈ us, wt (.st 20) x) : PMk 64 (.sl 13 us) := (markCoreArmCore_grp (.sl 13 us)).1 us rfl h.1 h.2
theorem markCoreS_all {us : List U} (h : us.length ≤ big ∧ ∀ x ∈ us, wt (.st 21) x) : PMk 63 (.sl 11 us) := (markCoreArmCore_grp (.sl 11 us)).2 us rfl h.1 h.2
set_option maxRecDepth 8000 in
set_option maxHeartbeats 8000000 in
theorem markUnitS_step {us : List U} (hl : us.length ≤ big) (hz : ∀ a ∈ us, wt (.st 25) a) (ih0 : ∀ (a_0 : Int) (a_1 : Int) (a_2 : Int) (a_3 : Int) (a_4 : List U) (a_5 : List U) (a_6 : List U) (a_7_0 : Int) (a_7_1 : List UInt8) (a_7_2 : List U) (a_8_0 : Int) (a_8_1 : List UInt8) (a_8_2 : List UInt8) (a_8_3 : Int) (a_8_4_0 : Int) (a_8_4_1 : List UInt8) (a_8_4_2 : List U) (a_8_5 : List U) (a_8_6 : List U) (a_8_7 : List U) (a_8_8 : List U), .st [.i .i64 a_0, .i .i64 a_1, .i .i64 a_2, .i .i64 a_3, .sl 1 a_4, .sl 4 a_5, .sl 4 a_6, .st [.i .i64 a_7_0, .s a_7_1, .sl 3 a_7_2], .st [.i .i64 a_8_0, .s a_8_1, .s a_8_2, .i .i64 a_8_3, .st [.i .i64 a_8_4_0, .s a_8_4_1, .sl 3 a_8_4_2], .sl 3 a_8_5, .sl 5 a_8_6, .sl 11 a_8_7, .sl 13 a_8_8]] ∈ us → PMk 57 (.sl 1 a_4)) (ih1 : ∀ (a_0 : Int) (a_1 : Int) (a_2 : Int) (a_3 : Int) (a_4 : List U) (a_5 : List U) (a_6 : List U) (a_7_0 : Int) (a_7_1 : List UInt8) (a_7_2 : List U) (a_8_0 : Int) (a_8_1 : List UInt8) (a_8_2 : List UInt8) (a_8_3 : Int) (a_8_4_0 : Int) (a_8_4_1 : List UInt8) (a_8_4_2 : List U) (a_8_5 : List U) (a_8_6 : List U) (a_8_7 : List U) (a_8_8 : List U), .st [.i .i64 a_0, .i .i64 a_1, .i .i64 a_2, .i .i64 a_3, .sl 1 a_4, .sl 4 a_5, .sl 4 a_6, .st [.i .i64 a_7_0, .s a_7_1, .sl 3 a_7_2], .st [.i .i64 a_8_0, .s a_8_1, .s a_8_2, .i .i64 a_8_3, .st [.i .i64 a_8_4_0, .s a_8_4_1, .sl 3 a_8_4_2], .sl 3 a_8_5, .sl 5 a_8_6, .sl 11 a_8_7, .sl 13 a_8_8]] ∈ us → PMk 58 (.sl 4 a_5)) (ih2 : ∀ (a_0 : Int) (a_1 : Int) (a_2 : Int) (a_3 : Int) (a_4 : List U) (a_5 : List U) (a_6 : List U) (a_7_0 : Int) (a_7_1 : List UInt8) (a_7_2 : List U) (a_8_0 : Int) (a_8_1 : List UInt8) (a_8_2 : List UInt8) (a_8_3 : Int) (a_8_4_0 : Int) (a_8_4_1 : List UInt8) (a_8_4_2 : List U) (a_8_5 : List U) (a_8_6 : List U) (a_8_7 : List U) (a_8_8 : List U), .st [.i .i64 a_0, .i .i64 a_1, .i .i64 a_2, .i .i64 a_3, .sl 1 a_4, .sl 4 a_5, .sl 4 a_6, .st [.i .i64 a_7_0, .s a_7_1, .sl 3 a_7_2], .st [.i .i64 a_8_0, .s a_8_1, .s a_8_2, .i .i64 a_8_3, .st [.i .i64 a_8_4_0, .s a_8_4_1, .sl 3 a_8_4_2], .sl 3 a_8_5, .sl 5 a_8_6, .sl 11 a_8_7, .sl 13 a_8_8]] ∈ us → PMk 59 (.sl 4 a_6)) (ih3 : ∀ (a_0 : Int) (a_1 : Int) (a_2 : Int) (a_3 : Int) (a_4 : List U) (a_5 : List U) (a_6 : List U) (a_7_0 : Int) (a_7_1 : List UInt8) (a_7_2 : List U) (a_8_0 : Int) (a_8_1 : List UInt8) (a_8_2 : List UInt8) (a_8_3 : Int) (a_8_4_0 : Int) (a_8_4_1 : List UInt8) (a_8_4_2 : List U) (a_8_5 : List U) (a_8_6 : List U) (a_8_7 : List U) (a_8_8 : List U), .st [.i .i64 a_0, .i .i64 a_1, .i .i64 a_2, .i .i64 a_3, .sl 1 a_4, .sl 4 a_5, .sl 4 a_6, .st [.i .i64 a_7_0, .s a_7_1, .sl 3 a_7_2], .st [.i .i64 a_8_0, .s a_8_1, .s a_8_2, .i .i64 a_8_3, .st [.i .i64 a_8_4_0, .s a_8_4_1, .sl 3 a_8_4_2], .sl 3 a_8_5, .sl 5 a_8_6, .sl 11 a_8_7, .sl 13 a_8_8]] ∈ us → PMk 61 (.sl 3 a_7_2)) (ih4 : ∀ (a_0 : Int) (a_1 : Int) (a_2 : Int) (a_3 : Int) (a_4 : List U) (a_5 : List U) (a_6 : List U) (a_7_0 : Int) (a_7_1 : List UInt8) (a_7_2 : List U) (a_8_0 : Int) (a_8_1 : List UInt8) (a_8_2 : List UInt8) (a_8_3 : Int) (a_8_4_0 : Int) (a_8_4_1 : List UInt8) (a_8_4_2 : List U) (a_8_5 : List U) (a_8_6 : List U) (a_8_7 : List U) (a_8_8 : List U), .st [.i .i64 a_0, .i .i64 a_1, .i .i64 a_2, .i .i64 a_3, .sl 1 a_4, .sl 4 a_5, .sl 4 a_6, .st [.i .i64 a_7_0, .s a_7_1, .sl 3 a_7_2], .st [.i .i64 a_8_0, .s a_8_1, .s a_8_2, .i .i64 a_8_3, .st [.i .i64 a_8_4_0, .s a_8_4_1, .sl 3 a_8_4_2], .sl 3 a_8_5, .sl 5 a_8_6, .sl 11 a_8_7, .sl 13 a_8_8]] ∈ us → PMk 61 (.sl 3 a_8_4_2)) (ih5 : ∀ (a_0 : Int) (a_1 : Int) (a_2 : Int) (a_3 : Int) (a_4 : List U) (a_5 : List U) (a_6 : List U) (a_7_0 : Int) (a_7_1 : List UInt8) (a_7_2 : List U) (a_8_0 : Int) (a_8_1 : List UInt8) (a_8_2 : List UInt8) (a_8_3 : Int) (a_8_4_0 : Int) (a_8_4_1 : List UInt8) (a_8_4_2 : List U) (a_8_5 : List U) (a_8_6 : List U) (a_8_7 : List U) (a_8_8 : List U), .st [.i .i64 a_0, .i .i64 a_1, .i .i64 a_2, .i .i64 a_3, .sl 1 a_4, .sl 4 a_5, .sl 4 a_6, .st [.i .i64 a_7_0, .s a_7_1, .sl 3 a_7_2], .st [.i .i64 a_8_0, .s a_8_1, .s a_8_2, .i .i64 a_8_3, .st [.i .i64 a_8_4_0, .s a_8_4_1, .sl 3 a_8_4_2], .sl 3 a_8_5, .sl 5 a_8_6, .sl 11 a_8_7, .sl 13 a_8_8]] ∈ us → PMk 61 (.sl 3 a_8_5)) (ih6 : ∀ (a_0 : Int) (a_1 : Int) (a_2 : Int) (a_3 : Int) (a_4 : List U) (a_5 : List U) (a_6 : List U) (a_7_0 : Int) (a_7_1 : List UInt8) (a_7_2 : List U) (a_8_0 : Int) (a_8_1 : List UInt8) (a_8_2 : List UInt8) (a_8_3 : Int) (a_8_4_0 : Int) (a_8_4_1 : List UInt8) (a_8_4_2 : List U) (a_8_5 : List U) (a_8_6 : List U) (a_8_7 : List U) (a_8_8 : List U), .st [.i .i64 a_0, .i .i64 a_1, .i .i64 a_2, .i .i64 a_3, .sl 1 a_4, .sl 4 a_5, .sl 4 a_6, .st [.i .i64 a_7_0, .s a_7_1, .sl 3 a_7_2], .st [.i .i64 a_8_0, .s a_8_1, .s a_8_2, .i .i64 a_8_3, .st [.i .i64 a_8_4_0, .s a_8_4_1, .sl 3 a_8_4_2], .sl 3 a_8_5, .sl 5 a_8_6, .sl 11 a_8_7, .sl 13 a_8_8]] ∈ us → PMk 62 (.sl 5 a_8_6)) (ih7 : ∀ (a_0 : Int) (a_1 : Int) (a_2 : Int) (a_3 : Int) (a_4 : List U) (a_5 : List U) (a_6 : List U) (a_7_0 : Int) (a_7_1 : List UInt8) (a_7_2 : List U) (a_8_0 : Int) (a_8_1 : List UInt8) (a_8_2 : List UInt8) (a_8_3 : Int) (a_8_4_0 : Int) (a_8_4_1 : List UInt8) (a_8_4_2 : List U) (a_8_5 : List U) (a_8_6 : List U) (a_8_7 : List U) (a_8_8 : List U), .st [.i .i64 a_0, .i .i64 a_1, .i .i64 a_2, .i .i64 a_3, .sl 1 a_4, .sl 4 a_5, .sl 4 a_6, .st [.i .i64 a_7_0, .s a_7_1, .sl 3 a_7_2], .st [.i .i64 a_8_0, .s a_8_1, .s a_8_2, .i .i64 a_8_3, .st [.i .i64 a_8_4_0, .s a_8_4_1, .sl 3 a_8_4_2], .sl 3 a_8_5, .sl 5 a_8_6, .sl 11 a_8_7, .sl 13 a_8_8]] ∈ us → PMk 63 (.sl 11 a_8_7)) (ih8 : ∀ (a_0 : Int) (a_1 : Int) (a_2 : Int) (a_3 : Int) (a_4 : List U) (a_5 : List U) (a_6 : List U) (a_7_0 : Int) (a_7_1 : List UInt8) (a_7_2 : List U) (a_8_0 : Int) (a_8_1 : List UInt8) (a_8_2 : List UInt8) (a_8_3 : Int) (a_8_4_0 : Int) (a_8_4_1 : List UInt8) (a_8_4_2 : List U) (a_8_5 : List U) (a_8_6 : List U) (a_8_7 : List U) (a_8_8 : List U), .st [.i .i64 a_0, .i .i64 a_1, .i .i64 a_2, .i .i64 a_3, .sl 1 a_4, .sl 4 a_5, .sl 4 a_6, .st [.i .i64 a_7_0, .s a_7_1, .sl 3 a_7_2], .st [.i .i64 a_8_0, .s a_8_1, .s a_8_2, .i .i64 a_8_3, .st [.i .i64 a_8_4_0, .s a_8_4_1, .sl 3 a_8_4_2], .sl 3 a_8_5, .sl 5 a_8_6, .sl 11 a_8_7, .sl 13 a_8_8]] ∈ us → PMk 64 (.sl 13 a_8_8)) : PMk 21 (.sl 21 us) := by
  intro k0 hk0 hk1
  have hlf : (U.sl 21 us).lf = U.lfs us := rfl
  rw [hlf] at hk1
  rw [big_eq] at hl
  show MSpec _ _ _ _ (.sl 21 (U.mks us k0).1) (U.mks us k0).2
  refine MSpec_intro (fun hv e => [.ownp (hv 0) (e 0) 21 us]) (fun hv e => [.ownp (hv 0) (e 0) 21 (U.mks us k0).1]) Tryz.func21 rfl (by kernel_rfl) rfl rfl (fun _ _ => .sl) (fun _ _ => .sl) rfl rfl fun A hv e _ => ?_
  refine gGO ?_
  refine V_block ?_
  refine V_loop (α := Nat)
    (fun i => ⟨[(0, .sl 0 0), (1, .d (.i .i64 (U.mks (us.take i) k0).2)), (5, .d (.i .i64 i))], [.ownp (hv 0) (e 0) 21 ((U.mks (us.take i) k0).1 ++ us.drop i)], Tryz.f21.ntmps⟩)
    (fun i => i ≤ us.length)
    (fun i => us.length - i) 0 ⟨rfl, ⟨⟨rfl, rfl⟩, ⟨rfl, rfl⟩, ⟨rfl, rfl⟩, trivial⟩, ⟨[], rfl⟩, rfl⟩ (by simp) ?_
  intro i hi
  have hlen : ((U.mks (us.take i) k0).1 ++ us.drop i).length = us.length := by simp [mks_len]; omega
  refine gGO ?_
  (first | refine V_cond rfl (fun hc2 => ?_) (fun hc2 => ?_) | refine V_seq (V_cond rfl (fun hc2 => ?_) (fun hc2 => ?_)))
  · refine V_skip ?_
    simp only [decide_eq_true_eq] at hc2
    rw [hlen] at hc2
    have hil : i < us.length := by omega
    obtain ⟨a, hget⟩ : ∃ a, us[i]? = some a := ⟨_, List.getElem?_eq_getElem hil⟩
    have hmem := List.mem_of_getElem? hget
    have hdrop := drop_get hget
    obtain ⟨hn1, hn2⟩ := mks_next hget k0
    have hmid := lfs_mid hget
    have hsnd := mks_snd (us.take i) k0
    have hpl : (U.mks (us.take i) k0).1.length = i := by simp [mks_len]; omega
    have hwa := hz a hmem
    obtain ⟨a_0, a_1, a_2, a_3, a_4, a_5, a_6, a_7, a_8, rfl, hwa_0, hwa_1, hwa_2, hwa_3, hwa_4, hwa_5, hwa_6, hwa_7, hwa_8⟩ := inv_Unit hwa
    obtain ⟨a_7_0, a_7_1, a_7_2, rfl, hwa_7_0, hwa_7_1, hwa_7_2⟩ := inv_Type hwa_7
    obtain ⟨a_8_0, a_8_1, a_8_2, a_8_3, a_8_4, a_8_5, a_8_6, a_8_7, a_8_8, rfl, hwa_8_0, hwa_8_1, hwa_8_2, hwa_8_3, hwa_8_4, hwa_8_5, hwa_8_6, hwa_8_7, hwa_8_8⟩ := inv_Core hwa_8
    obtain ⟨a_8_4_0, a_8_4_1, a_8_4_2, rfl, hwa_8_4_0, hwa_8_4_1, hwa_8_4_2⟩ := inv_Type hwa_8_4
    have hlfa : ((.st [.i .i64 a_0, .i .i64 a_1, .i .i64 a_2, .i .i64 a_3, .sl 1 a_4, .sl 4 a_5, .sl 4 a_6, .st [.i .i64 a_7_0, .s a_7_1, .sl 3 a_7_2], .st [.i .i64 a_8_0, .s a_8_1, .s a_8_2, .i .i64 a_8_3, .st [.i .i64 a_8_4_0, .s a_8_4_1, .sl 3 a_8_4_2], .sl 3 a_8_5, .sl 5 a_8_6, .sl 11 a_8_7, .sl 13 a_8_8]]) : U).lf = 0 + 1 + 1 + 1 + 1 + U.lfs a_4 + U.lfs a_5 + U.lfs a_6 + 1 + 1 + U.lfs a_7_2 + 1 + 1 + 1 + 1 + 1 + 1 + U.lfs a_8_4_2 + U.lfs a_8_5 + U.lfs a_8_6 + U.lfs a_8_7 + U.lfs a_8_8 := by simp [U.lf, U.lfs] <;> omega
    rw [hlfa] at hmid
    refine V_cast [.ownp (hv 0) (e 0) 21 ((U.mks (us.take i) k0).1 ++ (.st [.i .i64 a_0, .i .i64 a_1, .i .i64 a_2, .i .i64 a_3, .sl 1 a_4, .sl 4 a_5, .sl 4 a_6, .st [.i .i64 a_7_0, .s a_7_1, .sl 3 a_7_2], .st [.i .i64 a_8_0, .s a_8_1, .s a_8_2, .i .i64 a_8_3, .st [.i .i64 a_8_4_0, .s a_8_4_1, .sl 3 a_8_4_2], .sl 3 a_8_5, .sl 5 a_8_6, .sl 11 a_8_7, .sl 13 a_8_8]]) :: us.drop (i + 1))] (by rw [hdrop]) ?_
    have hkp : 0 < (U.mks (us.take i) k0).2 := by omega
    have hkb : (U.mks (us.take i) k0).2 + (0 + 1 + 1 + 1 + 1 + U.lfs a_4 + U.lfs a_5 + U.lfs a_6 + 1 + 1 + U.lfs a_7_2 + 1 + 1 + 1 + 1 + 1 + 1 + U.lfs a_8_4_2 + U.lfs a_8_5 + U.lfs a_8_6 + U.lfs a_8_7 + U.lfs a_8_8 : Nat) ≤ 4611686018427387904 := by omega
    have hlen' : ((U.mks (us.take i) k0).1 ++ (.st [.i .i64 a_0, .i .i64 a_1, .i .i64 a_2, .i .i64 a_3, .sl 1 a_4, .sl 4 a_5, .sl 4 a_6, .st [.i .i64 a_7_0, .s a_7_1, .sl 3 a_7_2], .st [.i .i64 a_8_0, .s a_8_1, .s a_8_2, .i .i64 a_8_3, .st [.i .i64 a_8_4_0, .s a_8_4_1, .sl 3 a_8_4_2], .sl 3 a_8_5, .sl 5 a_8_6, .sl 11 a_8_7, .sl 13 a_8_8]]) :: us.drop (i + 1)).length = us.length := by rw [← hdrop]; exact hlen
    clear hdrop hsnd hlfa hmid hlen
    generalize (U.mks (us.take i) k0).1 = pre at hn1 hpl hlen' ⊢
    generalize (U.mks (us.take i) k0).2 = kk at hn1 hn2 hkp hkb ⊢
    generalize hpost : us.drop (i + 1) = post at hlen' ⊢
    rw [List.length_append, List.length_cons] at hlen'
    refine V_seq (V_block ?_)
    repeat (first | refine gGP ?_ | refine qO (Q_index_own rfl rfl .ownp rfl TE.h TI.h (by omega) (by rw [List.length_append, List.length_cons]; omega)) ?_ | refine qQ (Q_index_own rfl rfl .ownp rfl TE.h TI.h (by omega) (by rw [List.length_append, List.length_cons]; omega)) ?_)
    refine VR_storeF (v := .i .i64 (kk)) rfl rfl .ownp hpl rfl rfl TI.h (by repeat constructor) .ownp (by repeat constructor) ?_
    repeat (first | refine gGP ?_ | refine qO (Q_index_own rfl rfl .ownp rfl TE.h TI.h (by omega) (by rw [List.length_append, List.length_cons]; omega)) ?_ | refine qQ (Q_index_own rfl rfl .ownp rfl TE.h TI.h (by omega) (by rw [List.length_append, List.length_cons]; omega)) ?_)
    refine VR_storeF (v := .i .i64 (kk + 1)) rfl rfl .ownp hpl rfl rfl TI.h (by repeat constructor) .ownp (by repeat constructor) ?_
    repeat (first | refine gGP ?_ | refine qO (Q_index_own rfl rfl .ownp rfl TE.h TI.h (by omega) (by rw [List.length_append, List.length_cons]; omega)) ?_ | refine qQ (Q_index_own rfl rfl .ownp rfl TE.h TI.h (by omega) (by rw [List.length_append, List.length_cons]; omega)) ?_)
    refine VR_storeF (v := .i .i64 (kk + 1 + 1)) rfl rfl .ownp hpl rfl rfl TI.h (by repeat constructor) .ownp (by repeat constructor) ?_
    repeat (first | refine gGP ?_ | refine qO (Q_index_own rfl rfl .ownp rfl TE.h TI.h (by omega) (by rw [List.length_append, List.length_cons]; omega)) ?_ | refine qQ (Q_index_own rfl rfl .ownp rfl TE.h TI.h (by omega) (by rw [List.length_append, List.length_cons]; omega)) ?_)
    refine VR_storeF (v := .i .i64 (kk + 1 + 1 + 1)) rfl rfl .ownp hpl rfl rfl TI.h (by repeat constructor) .ownp (by repeat constructor) ?_
    have hm4 := ih0 a_0 a_1 a_2 a_3 a_4 a_5 a_6 a_7_0 a_7_1 a_7_2 a_8_0 a_8_1 a_8_2 a_8_3 a_8_4_0 a_8_4_1 a_8_4_2 a_8_5 a_8_6 a_8_7 a_8_8 hmem (kk + 1 + 1 + 1 + 1) (by omega) (by simp only [U.lf]; omega)
    change MSpec _ _ _ _ (.sl 1 (U.mks a_4 (kk + 1 + 1 + 1 + 1)).1) (U.mks a_4 (kk + 1 + 1 + 1 + 1)).2 at hm4
    have hs4 := mks_snd a_4 (kk + 1 + 1 + 1 + 1)
    repeat (first | refine gGP ?_ | refine qO (Q_index_own rfl rfl .ownp rfl TE.h TI.h (by omega) (by rw [List.length_append, List.length_cons]; omega)) ?_ | refine qQ (Q_index_own rfl rfl .ownp rfl TE.h TI.h (by omega) (by rw [List.length_append, List.length_cons]; omega)) ?_)
    refine VR_markcall hm4 rfl rfl .ownp hpl TI.h (by repeat constructor) rfl rfl (by simp) .ownp (by repeat constructor) rfl rfl rfl (by decide) ?_
    have hm5 := ih1 a_0 a_1 a_2 a_3 a_4 a_5 a_6 a_7_0 a_7_1 a_7_2 a_8_0 a_8_1 a_8_2 a_8_3 a_8_4_0 a_8_4_1 a_8_4_2 a_8_5 a_8_6 a_8_7 a_8_8 hmem ((U.mks a_4 (kk + 1 + 1 + 1 + 1)).2) (by omega) (by simp only [U.lf]; omega)
    change MSpec _ _ _ _ (.sl 4 (U.mks a_5 ((U.mks a_4 (kk + 1 + 1 + 1 + 1)).2)).1) (U.mks a_5 ((U.mks a_4 (kk + 1 + 1 + 1 + 1)).2)).2 at hm5
    have hs5 := mks_snd a_5 ((U.mks a_4 (kk + 1 + 1 + 1 + 1)).2)
    repeat (first | refine gGP ?_ | refine qO (Q_index_own rfl rfl .ownp rfl TE.h TI.h (by omega) (by rw [List.length_append, List.length_cons]; omega)) ?_ | refine qQ (Q_index_own rfl rfl .ownp rfl TE.h TI.h (by omega) (by rw [List.length_append, List.length_cons]; omega)) ?_)
    refine VR_markcall hm5 rfl rfl .ownp hpl TI.h (by repeat constructor) rfl rfl (by simp) .ownp (by repeat constructor) rfl rfl rfl (by decide) ?_
    have hm6 := ih2 a_0 a_1 a_2 a_3 a_4 a_5 a_6 a_7_0 a_7_1 a_7_2 a_8_0 a_8_1 a_8_2 a_8_3 a_8_4_0 a_8_4_1 a_8_4_2 a_8_5 a_8_6 a_8_7 a_8_8 hmem ((U.mks a_5 ((U.mks a_4 (kk + 1 + 1 + 1 + 1)).2)).2) (by omega) (by simp only [U.lf]; omega)
    change MSpec _ _ _ _ (.sl 4 (U.mks a_6 ((U.mks a_5 ((U.mks a_4 (kk + 1 + 1 + 1 + 1)).2)).2)).1) (U.mks a_6 ((U.mks a_5 ((U.mks a_4 (kk + 1 + 1 + 1 + 1)).2)).2)).2 at hm6
    have hs6 := mks_snd a_6 ((U.mks a_5 ((U.mks a_4 (kk + 1 + 1 + 1 + 1)).2)).2)
    repeat (first | refine gGP ?_ | refine qO (Q_index_own rfl rfl .ownp rfl TE.h TI.h (by omega) (by rw [List.length_append, List.length_cons]; omega)) ?_ | refine qQ (Q_index_own rfl rfl .ownp rfl TE.h TI.h (by omega) (by rw [List.length_append, List.length_cons]; omega)) ?_)
    refine VR_markcall hm6 rfl rfl .ownp hpl TI.h (by repeat constructor) rfl rfl (by simp) .ownp (by repeat constructor) rfl rfl rfl (by decide) ?_
    repeat (first | refine gGP ?_ | refine qO (Q_index_own rfl rfl .ownp rfl TE.h TI.h (by omega) (by rw [List.length_append, List.length_cons]; omega)) ?_ | refine qQ (Q_index_own rfl rfl .ownp rfl TE.h TI.h (by omega) (by rw [List.length_append, List.length_cons]; omega)) ?_)
    refine VR_storeF (v := .i .i64 ((U.mks a_6 ((U.mks a_5 ((U.mks a_4 (kk + 1 + 1 + 1 + 1)).2)).2)).2)) rfl rfl .ownp hpl rfl rfl TI.h (by repeat constructor) .ownp (by repeat constructor) ?_
    have ht8 := markText_all ((U.mks a_6 ((U.mks a_5 ((U.mks a_4 (kk + 1 + 1 + 1 + 1)).2)).2)).2 + 1) (by omega) (by omega)
    repeat (first | refine gGP ?_ | refine qO (Q_index_own rfl rfl .ownp rfl TE.h TI.h (by omega) (by rw [List.length_append, List.length_cons]; omega)) ?_ | refine qQ (Q_index_own rfl rfl .ownp rfl TE.h TI.h (by omega) (by rw [List.length_append, List.length_cons]; omega)) ?_ | refine qO (Q_call rfl ht8 vA) ?_ | refine qQ (Q_call rfl ht8 vA) ?_)
    refine VR_storeF (v := .s (txt ((U.mks a_6 ((U.mks a_5 ((U.mks a_4 (kk + 1 + 1 + 1 + 1)).2)).2)).2 + 1))) rfl rfl .ownp hpl rfl rfl TI.h (by repeat constructor) .ownp (by repeat constructor) ?_
    have hm9 := ih3 a_0 a_1 a_2 a_3 a_4 a_5 a_6 a_7_0 a_7_1 a_7_2 a_8_0 a_8_1 a_8_2 a_8_3 a_8_4_0 a_8_4_1 a_8_4_2 a_8_5 a_8_6 a_8_7 a_8_8 hmem ((U.mks a_6 ((U.mks a_5 ((U.mks a_4 (kk + 1 + 1 + 1 + 1)).2)).2)).2 + 1 + 1) (by omega) (by simp only [U.lf]; omega)
    change MSpec _ _ _ _ (.sl 3 (U.mks a_7_2 ((U.mks a_6 ((U.mks a_5 ((U.mks a_4 (kk + 1 + 1 + 1 + 1)).2)).2)).2 + 1 + 1)).1) (U.mks a_7_2 ((U.mks a_6 ((U.mks a_5 ((U.mks a_4 (kk + 1 + 1 + 1 + 1)).2)).2)).2 + 1 + 1)).2 at hm9
    have hs9 := mks_snd a_7_2 ((U.mks a_6 ((U.mks a_5 ((U.mks a_4 (kk + 1 + 1 + 1 + 1)).2)).2)).2 + 1 + 1)
    repeat (first | refine gGP ?_ | refine qO (Q_index_own rfl rfl .ownp rfl TE.h TI.h (by omega) (by rw [List.length_append, List.length_cons]; omega)) ?_ | refine qQ (Q_index_own rfl rfl .ownp rfl TE.h TI.h (by omega) (by rw [List.length_append, List.length_cons]; omega)) ?_)
    refine VR_markcall hm9 rfl rfl .ownp hpl TI.h (by repeat constructor) rfl rfl (by simp) .ownp (by repeat constructor) rfl rfl rfl (by decide) ?_
    repeat (first | refine gGP ?_ | refine qO (Q_index_own rfl rfl .ownp rfl TE.h TI.h (by omega) (by rw [List.length_append, List.length_cons]; omega)) ?_ | refine qQ (Q_index_own rfl rfl .ownp rfl TE.h TI.h (by omega) (by rw [List.length_append, List.length_cons]; omega)) ?_)
    refine VR_storeF (v := .i .i64 ((U.mks a_7_2 ((U.mks a_6 ((U.mks a_5 ((U.mks a_4 (kk + 1 + 1 + 1 + 1)).2)).2)).2 + 1 + 1)).2)) rfl rfl .ownp hpl rfl rfl TI.h (by repeat constructor) .ownp (by repeat constructor) ?_
    have ht11 := markText_all ((U.mks a_7_2 ((U.mks a_6 ((U.mks a_5 ((U.mks a_4 (kk + 1 + 1 + 1 + 1)).2)).2)).2 + 1 + 1)).2 + 1) (by omega) (by omega)
    repeat (first | refine gGP ?_ | refine qO (Q_index_own rfl rfl .ownp rfl TE.h TI.h (by omega) (by rw [List.length_append, List.length_cons]; omega)) ?_ | refine qQ (Q_index_own rfl rfl .ownp rfl TE.h TI.h (by omega) (by rw [List.length_append, List.length_cons]; omega)) ?_ | refine qO (Q_call rfl ht11 vA) ?_ | refine qQ (Q_call rfl ht11 vA) ?_)
    refine VR_storeF (v := .s (txt ((U.mks a_7_2 ((U.mks a_6 ((U.mks a_5 ((U.mks a_4 (kk + 1 + 1 + 1 + 1)).2)).2)).2 + 1 + 1)).2 + 1))) rfl rfl .ownp hpl rfl rfl TI.h (by repeat constructor) .ownp (by repeat constructor) ?_
    have ht12 := markText_all ((U.mks a_7_2 ((U.mks a_6 ((U.mks a_5 ((U.mks a_4 (kk + 1 + 1 + 1 + 1)).2)).2)).2 + 1 + 1)).2 + 1 + 1) (by omega) (by omega)
    repeat (first | refine gGP ?_ | refine qO (Q_index_own rfl rfl .ownp rfl TE.h TI.h (by omega) (by rw [List.length_append, List.length_cons]; omega)) ?_ | refine qQ (Q_index_own rfl rfl .ownp rfl TE.h TI.h (by omega) (by rw [List.length_append, List.length_cons]; omega)) ?_ | refine qO (Q_call rfl ht12 vA) ?_ | refine qQ (Q_call rfl ht12 vA) ?_)
    refine VR_storeF (v := .s (txt ((U.mks a_7_2 ((U.mks a_6 ((U.mks a_5 ((U.mks a_4 (kk + 1 + 1 + 1 + 1)).2)).2)).2 + 1 + 1)).2 + 1 + 1))) rfl rfl .ownp hpl rfl rfl TI.h (by repeat constructor) .ownp (by repeat constructor) ?_
    repeat (first | refine gGP ?_ | refine qO (Q_index_own rfl rfl .ownp rfl TE.h TI.h (by omega) (by rw [List.length_append, List.length_cons]; omega)) ?_ | refine qQ (Q_index_own rfl rfl .ownp rfl TE.h TI.h (by omega) (by rw [List.length_append, List.length_cons]; omega)) ?_)
    refine VR_storeF (v := .i .i64 ((U.mks a_7_2 ((U.mks a_6 ((U.mks a_5 ((U.mks a_4 (kk + 1 + 1 + 1 + 1)).2)).2)).2 + 1 + 1)).2 + 1 + 1 + 1)) rfl rfl .ownp hpl rfl rfl TI.h (by repeat constructor) .ownp (by repeat constructor) ?_
    repeat (first | refine gGP ?_ | refine qO (Q_index_own rfl rfl .ownp rfl TE.h TI.h (by omega) (by rw [List.length_append, List.length_cons]; omega)) ?_ | refine qQ (Q_index_own rfl rfl .ownp rfl TE.h TI.h (by omega) (by rw [List.length_append, List.length_cons]; omega)) ?_)
    refine VR_storeF (v := .i .i64 ((U.mks a_7_2 ((U.mks a_6 ((U.mks a_5 ((U.mks a_4 (kk + 1 + 1 + 1 + 1)).2)).2)).2 + 1 + 1)).2 + 1 + 1 + 1 + 1)) rfl rfl .ownp hpl rfl rfl TI.h (by repeat constructor) .ownp (by repeat constructor) ?_
    have ht15 := markText_all ((U.mks a_7_2 ((U.mks a_6 ((U.mks a_5 ((U.mks a_4 (kk + 1 + 1 + 1 + 1)).2)).2)).2 + 1 + 1)).2 + 1 + 1 + 1 + 1 + 1) (by omega) (by omega)
    repeat (first | refine gGP ?_ | refine qO (Q_index_own rfl rfl .ownp rfl TE.h TI.h (by omega) (by rw [List.length_append, List.length_cons]; omega)) ?_ | refine qQ (Q_index_own rfl rfl .ownp rfl TE.h TI.h (by omega) (by rw [List.length_append, List.length_cons]; omega)) ?_ | refine qO (Q_call rfl ht15 vA) ?_ | refine qQ (Q_call rfl ht15 vA) ?_)
    refine VR_storeF (v := .s (txt ((U.mks a_7_2 ((U.mks a_6 ((U.mks a_5 ((U.mks a_4 (kk + 1 + 1 + 1 + 1)).2)).2)).2 + 1 + 1)).2 + 1 + 1 + 1 + 1 + 1))) rfl rfl .ownp hpl rfl rfl TI.h (by repeat constructor) .ownp (by repeat constructor) ?_
    have hm16 := ih4 a_0 a_1 a_2 a_3 a_4 a_5 a_6 a_7_0 a_7_1 a_7_2 a_8_0 a_8_1 a_8_2 a_8_3 a_8_4_0 a_8_4_1 a_8_4_2 a_8_5 a_8_6 a_8_7 a_8_8 hmem ((U.mks a_7_2 ((U.mks a_6 ((U.mks a_5 ((U.mks a_4 (kk + 1 + 1 + 1 + 1)).2)).2)).2 + 1 + 1)).2 + 1 + 1 + 1 + 1 + 1 + 1) (by omega) (by simp only [U.lf]; omega)
    change MSpec _ _ _ _ (.sl 3 (U.mks a_8_4_2 ((U.mks a_7_2 ((U.mks a_6 ((U.mks a_5 ((U.mks a_4 (kk + 1 + 1 + 1 + 1)).2)).2)).2 + 1 + 1)).2 + 1 + 1 + 1 + 1 + 1 + 1)).1) (U.mks a_8_4_2 ((U.mks a_7_2 ((U.mks a_6 ((U.mks a_5 ((U.mks a_4 (kk + 1 + 1 + 1 + 1)).2)).2)).2 + 1 + 1)).2 + 1 + 1 + 1 + 1 + 1 + 1)).2 at hm16
    have hs16 := mks_snd a_8_4_2 ((U.mks a_7_2 ((U.mks a_6 ((U.mks a_5 ((U.mks a_4 (kk + 1 + 1 + 1 + 1)).2)).2)).2 + 1 + 1)).2 + 1 + 1 + 1 + 1 + 1 + 1)
    repeat (first | refine gGP ?_ | refine qO (Q_index_own rfl rfl .ownp rfl TE.h TI.h (by omega) (by rw [List.length_append, List.length_cons]; omega)) ?_ | refine qQ (Q_index_own rfl rfl .ownp rfl TE.h TI.h (by omega) (by rw [List.length_append, List.length_cons]; omega)) ?_)
    refine VR_markcall hm16 rfl rfl .ownp hpl TI.h (by repeat constructor) rfl rfl (by simp) .ownp (by repeat constructor) rfl rfl rfl (by decide) ?_
    have hm17 := ih5 a_0 a_1 a_2 a_3 a_4 a_5 a_6 a_7_0 a_7_1 a_7_2 a_8_0 a_8_1 a_8_2 a_8_3 a_8_4_0 a_8_4_1 a_8_4_2 a_8_5 a_8_6 a_8_7 a_8_8 hmem ((U.mks a_8_4_2 ((U.mks a_7_2 ((U.mks a_6 ((U.mks a_5 ((U.mks a_4 (kk + 1 + 1 + 1 + 1)).2)).2)).2 + 1 + 1)).2 + 1 + 1 + 1 + 1 + 1 + 1)).2) (by omega) (by simp only [U.lf]; omega)
    change MSpec _ _ _ _ (.sl 3 (U.mks a_8_5 ((U.mks a_8_4_2 ((U.mks a_7_2 ((U.mks a_6 ((U.mks a_5 ((U.mks a_4 (kk + 1 + 1 + 1 + 1)).2)).2)).2 + 1 + 1)).2 + 1 + 1 + 1 + 1 + 1 + 1)).2)).1) (U.mks a_8_5 ((U.mks a_8_4_2 ((U.mks a_7_2 ((U.mks a_6 ((U.mks a_5 ((U.mks a_4 (kk + 1 + 1 + 1 + 1)).2)).2)).2 + 1 + 1)).2 + 1 + 1 + 1 + 1 + 1 + 1)).2)).2 at hm17
    have hs17 := mks_snd a_8_5 ((U.mks a_8_4_2 ((U.mks a_7_2 ((U.mks a_6 ((U.mks a_5 ((U.mks a_4 (kk + 1 + 1 + 1 + 1)).2)).2)).2 + 1 + 1)).2 + 1 + 1 + 1 + 1 + 1 + 1)).2)
    repeat (first | refine gGP ?_ | refine qO (Q_index_own rfl rfl .ownp rfl TE.h TI.h (by omega) (by rw [List.length_append, List.length_cons]; omega)) ?_ | refine qQ (Q_index_own rfl rfl .ownp rfl TE.h TI.h (by omega) (by rw [List.length_append, List.length_cons]; omega)) ?_)
    refine VR_markcall hm17 rfl rfl .ownp hpl TI.h (by repeat constructor) rfl rfl (by simp) .ownp (by repeat constructor) rfl rfl rfl (by decide) ?_
    have hm18 := ih6 a_0 a_1 a_2 a_3 a_4 a_5 a_6 a_7_0 a_7_1 a_7_2 a_8_0 a_8_1 a_8_2 a_8_3 a_8_4_0 a_8_4_1 a_8_4_2 a_8_5 a_8_6 a_8_7 a_8_8 hmem ((U.mks a_8_5 ((U.mks a_8_4_2 ((U.mks a_7_2 ((U.mks a_6 ((U.mks a_5 ((U.mks a_4 (kk + 1 + 1 + 1 + 1)).2)).2)).2 + 1 + 1)).2 + 1 + 1 + 1 + 1 + 1 + 1)).2)).2) (by omega) (by simp only [U.lf]; omega)
    change MSpec _ _ _ _ (.sl 5 (U.mks a_8_6 ((U.mks a_8_5 ((U.mks a_8_4_2 ((U.mks a_7_2 ((U.mks a_6 ((U.mks a_5 ((U.mks a_4 (kk + 1 + 1 + 1 + 1)).2)).2)).2 + 1 + 1)).2 + 1 + 1 + 1 + 1 + 1 + 1)).2)).2)).1) (U.mks a_8_6 ((U.mks a_8_5 ((U.mks a_8_4_2 ((U.mks a_7_2 ((U.mks a_6 ((U.mks a_5 ((U.mks a_4 (kk + 1 + 1 + 1 + 1)).2)).2)).2 + 1 + 1)).2 + 1 + 1 + 1 + 1 + 1 + 1)).2)).2)).2 at hm18
    have hs18 := mks_snd a_8_6 ((U.mks a_8_5 ((U.mks a_8_4_2 ((U.mks a_7_2 ((U.mks a_6 ((U.mks a_5 ((U.mks a_4 (kk + 1 + 1 + 1 + 1)).2)).2)).2 + 1 + 1)).2 + 1 + 1 + 1 + 1 + 1 + 1)).2)).2)
    repeat (first | refine gGP ?_ | refine qO (Q_index_own rfl rfl .ownp rfl TE.h TI.h (by omega) (by rw [List.length_append, List.length_cons]; omega)) ?_ | refine qQ (Q_index_own rfl rfl .ownp rfl TE.h TI.h (by omega) (by rw [List.length_append, List.length_cons]; omega)) ?_)
    refine VR_markcall hm18 rfl rfl .ownp hpl TI.h (by repeat constructor) rfl rfl (by simp) .ownp (by repeat constructor) rfl rfl rfl (by decide) ?_
    have hm19 := ih7 a_0 a_1 a_2 a_3 a_4 a_5 a_6 a_7_0 a_7_1 a_7_2 a_8_0 a_8_1 a_8_2 a_8_3 a_8_4_0 a_8_4_1 a_8_4_2 a_8_5 a_8_6 a_8_7 a_8_8 hmem ((U.mks a_8_6 ((U.mks a_8_5 ((U.mks a_8_4_2 ((U.mks a_7_2 ((U.mks a_6 ((U.mks a_5 ((U.mks a_4 (kk + 1 + 1 + 1 + 1)).2)).2)).2 + 1 + 1)).2 + 1 + 1 + 1 + 1 + 1 + 1)).2)).2)).2) (by omega) (by simp only [U.lf]; omega)
    change MSpec _ _ _ _ (.sl 11 (U.mks a_8_7 ((U.mks a_8_6 ((U.mks a_8_5 ((U.mks a_8_4_2 ((U.mks a_7_2 ((U.mks a_6 ((U.mks a_5 ((U.mks a_4 (kk + 1 + 1 + 1 + 1)).2)).2)).2 + 1 + 1)).2 + 1 + 1 + 1 + 1 + 1 + 1)).2)).2)).2)).1) (U.mks a_8_7 ((U.mks a_8_6 ((U.mks a_8_5 ((U.mks a_8_4_2 ((U.mks a_7_2 ((U.mks a_6 ((U.mks a_5 ((U.mks a_4 (kk + 1 + 1 + 1 + 1)).2)).2)).2 + 1 + 1)).2 + 1 + 1 + 1 + 1 + 1 + 1)).2)).2)).2)).2 at hm19
    have hs19 := mks_snd a_8_7 ((U.mks a_8_6 ((U.mks a_8_5 ((U.mks a_8_4_2 ((U.mks a_7_2 ((U.mks a_6 ((U.mks a_5 ((U.mks a_4 (kk + 1 + 1 + 1 + 1)).2)).2)).2 + 1 + 1)).2 + 1 + 1 + 1 + 1 + 1 + 1)).2)).2)).2)
    repeat (first | refine gGP ?_ | refine qO (Q_index_own rfl rfl .ownp rfl TE.h TI.h (by omega) (by rw [List.length_append, List.length_cons]; omega)) ?_ | refine qQ (Q_index_own rfl rfl .ownp rfl TE.h TI.h (by omega) (by rw [List.length_append, List.length_cons]; omega)) ?_)
    refine VR_markcall hm19 rfl rfl .ownp hpl TI.h (by repeat constructor) rfl rfl (by simp) .ownp (by repeat constructor) rfl rfl rfl (by decide) ?_
    have hm20 := ih8 a_0 a_1 a_2 a_3 a_4 a_5 a_6 a_7_0 a_7_1 a_7_2 a_8_0 a_8_1 a_8_2 a_8_3 a_8_4_0 a_8_4_1 a_8_4_2 a_8_5 a_8_6 a_8_7 a_8_8 hmem ((U.mks a_8_7 ((U.mks a_8_6 ((U.mks a_8_5 ((U.mks a_8_4_2 ((U.mks a_7_2 ((U.mks a_6 ((U.mks a_5 ((U.mks a_4 (kk + 1 + 1 + 1 + 1)).2)).2)).2 + 1 + 1)).2 + 1 + 1 + 1 + 1 + 1 + 1)).2)).2)).2)).2) (by omega) (by simp only [U.lf]; omega)
    change MSpec _ _ _ _ (.sl 13 (U.mks a_8_8 ((U.mks a_8_7 ((U.mks a_8_6 ((U.mks a_8_5 ((U.mks a_8_4_2 ((U.mks a_7_2 ((U.mks a_6 ((U.mks a_5 ((U.mks a_4 (kk + 1 + 1 + 1 + 1)).2)).2)).2 + 1 + 1)).2 + 1 + 1 + 1 + 1 + 1 + 1)).2)).2)).2)).2)).1) (U.mks a_8_8 ((U.mks a_8_7 ((U.mks a_8_6 ((U.mks a_8_5 ((U.mks a_8_4_2 ((U.mks a_7_2 ((U.mks a_6 ((U.mks a_5 ((U.mks a_4 (kk + 1 + 1 + 1 + 1)).2)).2)).2 + 1 + 1)).2 + 1 + 1 + 1 + 1 + 1 + 1)).2)).2)).2)).2)).2 at hm20
    have hs20 := mks_snd a_8_8 ((U.mks a_8_7 ((U.mks a_8_6 ((U.mks a_8_5 ((U.mks a_8_4_2 ((U.mks a_7_2 ((U.mks a_6 ((U.mks a_5 ((U.mks a_4 (kk + 1 + 1 + 1 + 1)).2)).2)).2 + 1 + 1)).2 + 1 + 1 + 1 + 1 + 1 + 1)).2)).2)).2)).2)
    repeat (first | refine gGP ?_ | refine qO (Q_index_own rfl rfl .ownp rfl TE.h TI.h (by omega) (by rw [List.length_append, List.length_cons]; omega)) ?_ | refine qQ (Q_index_own rfl rfl .ownp rfl TE.h TI.h (by omega) (by rw [List.length_append, List.length_cons]; omega)) ?_)
    refine VR_markcall hm20 rfl rfl .ownp hpl TI.h (by repeat constructor) rfl rfl (by simp) .ownp (by repeat constructor) rfl rfl rfl (by decide) ?_
    refine gGO ?_
    refine ⟨i + 1, by omega, by omega, ⟨rfl, ⟨⟨rfl, rfl⟩, ⟨?_, rfl⟩, ⟨rfl, rfl⟩, trivial⟩, ⟨[], ?_⟩, rfl⟩⟩
    · rw [hn2]; rfl
    · rw [hn1, hpost, List.append_assoc]; rfl
  · refine V_exit ?_
    simp only [decide_eq_false_iff_not] at hc2
    rw [hlen] at hc2
    have hkl : i = us.length := by omega
    subst hkl
    show V _ _ _ _ _
    refine gGO ?_
    refine V_ret ?_
    refine ⟨trivial, ?_, [], ?_⟩
    · show SV.d (.i .i64 (U.mks (us.take us.length) k0).2) = _
      rw [List.take_length]
    · simp only [List.take_length, List.drop_length, List.append_nil]
theorem markUnit_grp (u : U) : (∀ us, u = .sl 21 us → us.length ≤ big → (∀ x ∈ us, wt (.st 25) x) → PMk 21 u) := by
  refine U.ind (M := fun u => (∀ us, u = .sl 21 us → us.length ≤ big → (∀ x ∈ us, wt (.st 25) x) → PMk 21 u)) (fun u ih => ?_) u
  refine ?_
  · rintro us rfl hl hz
    exact markUnitS_step hl hz (fun a_0 a_1 a_2 a_3 a_4 a_5 a_6 a_7_0 a_7_1 a_7_2 a_8_0 a_8_1 a_8_2 a_8_3 a_8_4_0 a_8_4_1 a_8_4_2 a_8_5 a_8_6 a_8_7 a_8_8 ha => by obtain ⟨_, _, _, _, _, _, _, _, _, hx_a, qa_0, qa_1, qa_2, qa_3, qa_4, qa_5, qa_6, qa_7, qa_8⟩ := inv_Unit (hz _ ha); cases hx_a; obtain ⟨_, _, _, hx_a_7, qa_7_0, qa_7_1, qa_7_2⟩ := inv_Type qa_7; cases hx_a_7; obtain ⟨_, _, _, _, _, _, _, _, _, hx_a_8, qa_8_0, qa_8_1, qa_8_2, qa_8_3, qa_8_4, qa_8_5, qa_8_6, qa_8_7, qa_8_8⟩ := inv_Core qa_8; cases hx_a_8; obtain ⟨_, _, _, hx_a_8_4, qa_8_4_0, qa_8_4_1, qa_8_4_2⟩ := inv_Type qa_8_4; cases hx_a_8_4; exact markStringS_all qa_4) (fun a_0 a_1 a_2 a_3 a_4 a_5 a_6 a_7_0 a_7_1 a_7_2 a_8_0 a_8_1 a_8_2 a_8_3 a_8_4_0 a_8_4_1 a_8_4_2 a_8_5 a_8_6 a_8_7 a_8_8 ha => by obtain ⟨_, _, _, _, _, _, _, _, _, hx_a, qa_0, qa_1, qa_2, qa_3, qa_4, qa_5, qa_6, qa_7, qa_8⟩ := inv_Unit (hz _ ha); cases hx_a; obtain ⟨_, _, _, hx_a_7, qa_7_0, qa_7_1, qa_7_2⟩ := inv_Type qa_7; cases hx_a_7; obtain ⟨_, _, _, _, _, _, _, _, _, hx_a_8, qa_8_0, qa_8_1, qa_8_2, qa_8_3, qa_8_4, qa_8_5, qa_8_6, qa_8_7, qa_8_8⟩ := inv_Core qa_8; cases hx_a_8; obtain ⟨_, _, _, hx_a_8_4, qa_8_4_0, qa_8_4_1, qa_8_4_2⟩ := inv_Type qa_8_4; cases hx_a_8_4; exact markBoundS_all qa_5) (fun a_0 a_1 a_2 a_3 a_4 a_5 a_6 a_7_0 a_7_1 a_7_2 a_8_0 a_8_1 a_8_2 a_8_3 a_8_4_0 a_8_4_1 a_8_4_2 a_8_5 a_8_6 a_8_7 a_8_8 ha => by obtain ⟨_, _, _, _, _, _, _, _, _, hx_a, qa_0, qa_1, qa_2, qa_3, qa_4, qa_5, qa_6, qa_7, qa_8⟩ := inv_Unit (hz _ ha); cases hx_a; obtain ⟨_, _, _, hx_a_7, qa_7_0, qa_7_1, qa_7_2⟩ := inv_Type qa_7; cases hx_a_7; obtain ⟨_, _, _, _, _, _, _, _, _, hx_a_8, qa_8_0, qa_8_1, qa_8_2, qa_8_3, qa_8_4, qa_8_5, qa_8_6, qa_8_7, qa_8_8⟩ := inv_Core qa_8; cases hx_a_8; obtain ⟨_, _, _, hx_a_8_4, qa_8_4_0, qa_8_4_1, qa_8_4_2⟩ := inv_Type qa_8_4; cases hx_a_8_4; exact markParamS_all qa_6) (fun a_0 a_1 a_2 a_3 a_4 a_5 a_6 a_7_0 a_7_1 a_7_2 a_8_0 a_8_1 a_8_2 a_8_3 a_8_4_0 a_8_4_1 a_8_4_2 a_8_5 a_8_6 a_8_7 a_8_8 ha => by obtain ⟨_, _, _, _, _, _, _, _, _, hx_a, qa_0, qa_1, qa_2, qa_3, qa_4, qa_5, qa_6, qa_7, qa_8⟩ := inv_Unit (hz _ ha); cases hx_a; obtain ⟨_, _, _, hx_a_7, qa_7_0, qa_7_1, qa_7_2⟩ := inv_Type qa_7; cases hx_a_7; obtain ⟨_, _, _, _, _, _, _, _, _, hx_a_8, qa_8_0, qa_8_1, qa_8_2, qa_8_3, qa_8_4, qa_8_5, qa_8_6, qa_8_7, qa_8_8⟩ := inv_Core qa_8; cases hx_a_8; obtain ⟨_, _, _, hx_a_8_4, qa_8_4_0, qa_8_4_1, qa_8_4_2⟩ := inv_Type qa_8_4; cases hx_a_8_4; exact markTypeS_all qa_7_2) (fun a_0 a_1 a_2 a_3 a_4 a_5 a_6 a_7_0 a_7_1 a_7_2 a_8_0 a_8_1 a_8_2 a_8_3 a_8_4_0 a_8_4_1 a_8_4_2 a_8_5 a_8_6 a_8_7 a_8_8 ha => by obtain ⟨_, _, _, _, _, _, _, _, _, hx_a, qa_0, qa_1, qa_2, qa_3, qa_4, qa_5, qa_6, qa_7, qa_8⟩ := inv_Unit (hz _ ha); cases hx_a; obtain ⟨_, _, _, hx_a_7, qa_7_0, qa_7_1, qa_7_2⟩ := inv_Type qa_7; cases hx_a_7; obtain ⟨_, _, _, _, _, _, _, _, _, hx_a_8, qa_8_0, qa_8_1, qa_8_2, qa_8_3, qa_8_4, qa_8_5, qa_8_6, qa_8_7, qa_8_8⟩ := inv_Core qa_8; cases hx_a_8; obtain ⟨_, _, _, hx_a_8_4, qa_8_4_0, qa_8_4_1, qa_8_4_2⟩ := inv_Type qa_8_4; cases hx_a_8_4; exact markTypeS_all qa_8_4_2) (fun a_0 a_1 a_2 a_3 a_4 a_5 a_6 a_7_0 a_7_1 a_7_2 a_8_0 a_8_1 a_8_2 a_8_3 a_8_4_0 a_8_4_1 a_8_4_2 a_8_5 a_8_6 a_8_7 a_8_8 ha => by obtain ⟨_, _, _, _, _, _, _, _, _, hx_a, qa_0, qa_1, qa_2, qa_3, qa_4, qa_5, qa_6, qa_7, qa_8⟩ := inv_Unit (hz _ ha); cases hx_a; obtain ⟨_, _, _, hx_a_7, qa_7_0, qa_7_1, qa_7_2⟩ := inv_Type qa_7; cases hx_a_7; obtain ⟨_, _, _, _, _, _, _, _, _, hx_a_8, qa_8_0, qa_8_1, qa_8_2, qa_8_3, qa_8_4, qa_8_5, qa_8_6, qa_8_7, qa_8_8⟩ := inv_Core qa_8; cases hx_a_8; obtain ⟨_, _, _, hx_a_8_4, qa_8_4_0, qa_8_4_1, qa_8_4_2⟩ := inv_Type qa_8_4; cases hx_a_8_4; exact markTypeS_all qa_8_5) (fun a_0 a_1 a_2 a_3 a_4 a_5 a_6 a_7_0 a_7_1 a_7_2 a_8_0 a_8_1 a_8_2 a_8_3 a_8_4_0 a_8_4_1 a_8_4_2 a_8_5 a_8_6 a_8_7 a_8_8 ha => by obtain ⟨_, _, _, _, _, _, _, _, _, hx_a, qa_0, qa_1, qa_2, qa_3, qa_4, qa_5, qa_6, qa_7, qa_8⟩ := inv_Unit (hz _ ha); cases hx_a; obtain ⟨_, _, _, hx_a_7, qa_7_0, qa_7_1, qa_7_2⟩ := inv_Type qa_7; cases hx_a_7; obtain ⟨_, _, _, _, _, _, _, _, _, hx_a_8, qa_8_0, qa_8_1, qa_8_2, qa_8_3, qa_8_4, qa_8_5, qa_8_6, qa_8_7, qa_8_8⟩ := inv_Core qa_8; cases hx_a_8; obtain ⟨_, _, _, hx_a_8_4, qa_8_4_0, qa_8_4_1, qa_8_4_2⟩ := inv_Type qa_8_4; cases hx_a_8_4; exact markEvidenceS_all qa_8_6) (fun a_0 a_1 a_2 a_3 a_4 a_5 a_6 a_7_0 a_7_1 a_7_2 a_8_0 a_8_1 a_8_2 a_8_3 a_8_4_0 a_8_4_1 a_8_4_2 a_8_5 a_8_6 a_8_7 a_8_8 ha => by obtain ⟨_, _, _, _, _, _, _, _, _, hx_a, qa_0, qa_1, qa_2, qa_3, qa_4, qa_5, qa_6, qa_7, qa_8⟩ := inv_Unit (hz _ ha); cases hx_a; obtain ⟨_, _, _, hx_a_7, qa_7_0, qa_7_1, qa_7_2⟩ := inv_Type qa_7; cases hx_a_7; obtain ⟨_, _, _, _, _, _, _, _, _, hx_a_8, qa_8_0, qa_8_1, qa_8_2, qa_8_3, qa_8_4, qa_8_5, qa_8_6, qa_8_7, qa_8_8⟩ := inv_Core qa_8; cases hx_a_8; obtain ⟨_, _, _, hx_a_8_4, qa_8_4_0, qa_8_4_1, qa_8_4_2⟩ := inv_Type qa_8_4; cases hx_a_8_4; exact markCoreS_all qa_8_7) (fun a_0 a_1 a_2 a_3 a_4 a_5 a_6 a_7_0 a_7_1 a_7_2 a_8_0 a_8_1 a_8_2 a_8_3 a_8_4_0 a_8_4_1 a_8_4_2 a_8_5 a_8_6 a_8_7 a_8_8 ha => by obtain ⟨_, _, _, _, _, _, _, _, _, hx_a, qa_0, qa_1, qa_2, qa_3, qa_4, qa_5, qa_6, qa_7, qa_8⟩ := inv_Unit (hz _ ha); cases hx_a; obtain ⟨_, _, _, hx_a_7, qa_7_0, qa_7_1, qa_7_2⟩ := inv_Type qa_7; cases hx_a_7; obtain ⟨_, _, _, _, _, _, _, _, _, hx_a_8, qa_8_0, qa_8_1, qa_8_2, qa_8_3, qa_8_4, qa_8_5, qa_8_6, qa_8_7, qa_8_8⟩ := inv_Core qa_8; cases hx_a_8; obtain ⟨_, _, _, hx_a_8_4, qa_8_4_0, qa_8_4_1, qa_8_4_2⟩ := inv_Type qa_8_4; cases hx_a_8_4; exact markCoreArmS_all qa_8_8)
theorem markUnitS_all {us : List U} (h : us.length ≤ big ∧ ∀ x ∈ us, wt (.st 25) x) : PMk 21 (.sl 21 us) := (markUnit_grp (.sl 21 us)) us rfl h.1 h.2
set_option maxRecDepth 8000 in
set_option maxHeartbeats 8000000 in
theorem markIntS_step {us : List U} (hl : us.length ≤ big) (hz : ∀ a ∈ us, wt (.int) a) : PMk 65 (.sl 1 us) := by
  intro k0 hk0 hk1
  have hlf : (U.sl 1 us).lf = U.lfs us := rfl
  rw [hlf] at hk1
  rw [big_eq] at hl
  show MSpec _ _ _ _ (.sl 1 (U.mks us k0).1) (U.mks us k0).2
  refine MSpec_intro (fun hv e => [.ownp (hv 0) (e 0) 1 us]) (fun hv e => [.ownp (hv 0) (e 0) 1 (U.mks us k0).1]) Tryz.func65 rfl (by kernel_rfl) rfl rfl (fun _ _ => .sl) (fun _ _ => .sl) rfl rfl fun A hv e _ => ?_
  refine gGO ?_
  refine V_block ?_
  refine V_loop (α := Nat)
    (fun i => ⟨[(0, .sl 0 0), (1, .d (.i .i64 (U.mks (us.take i) k0).2)), (5, .d (.i .i64 i))], [.ownp (hv 0) (e 0) 1 ((U.mks (us.take i) k0).1 ++ us.drop i)], Tryz.f65.ntmps⟩)
    (fun i => i ≤ us.length)
    (fun i => us.length - i) 0 ⟨rfl, ⟨⟨rfl, rfl⟩, ⟨rfl, rfl⟩, ⟨rfl, rfl⟩, trivial⟩, ⟨[], rfl⟩, rfl⟩ (by simp) ?_
  intro i hi
  have hlen : ((U.mks (us.take i) k0).1 ++ us.drop i).length = us.length := by simp [mks_len]; omega
  refine gGO ?_
  (first | refine V_cond rfl (fun hc2 => ?_) (fun hc2 => ?_) | refine V_seq (V_cond rfl (fun hc2 => ?_) (fun hc2 => ?_)))
  · refine V_skip ?_
    simp only [decide_eq_true_eq] at hc2
    rw [hlen] at hc2
    have hil : i < us.length := by omega
    obtain ⟨a, hget⟩ : ∃ a, us[i]? = some a := ⟨_, List.getElem?_eq_getElem hil⟩
    have hmem := List.mem_of_getElem? hget
    have hdrop := drop_get hget
    obtain ⟨hn1, hn2⟩ := mks_next hget k0
    have hmid := lfs_mid hget
    have hsnd := mks_snd (us.take i) k0
    have hpl : (U.mks (us.take i) k0).1.length = i := by simp [mks_len]; omega
    obtain ⟨a, rfl, _⟩ := inv_int (hz a hmem)
    have hlfa : ((.i .i64 a) : U).lf = 0 + 1 := by simp [U.lf, U.lfs]
    rw [hlfa] at hmid
    refine V_cast [.ownp (hv 0) (e 0) 1 ((U.mks (us.take i) k0).1 ++ (.i .i64 a) :: us.drop (i + 1))] (by rw [hdrop]) ?_
    have hkp : 0 < (U.mks (us.take i) k0).2 := by omega
    have hkb : (U.mks (us.take i) k0).2 + (0 + 1 : Nat) ≤ 4611686018427387904 := by omega
    have hlen' : ((U.mks (us.take i) k0).1 ++ (.i .i64 a) :: us.drop (i + 1)).length = us.length := by rw [← hdrop]; exact hlen
    clear hdrop hsnd hlfa hmid hlen
    generalize (U.mks (us.take i) k0).1 = pre at hn1 hpl hlen' ⊢
    generalize (U.mks (us.take i) k0).2 = kk at hn1 hn2 hkp hkb ⊢
    generalize hpost : us.drop (i + 1) = post at hlen' ⊢
    rw [List.length_append, List.length_cons] at hlen'
    refine V_seq (V_block ?_)
    repeat (first | refine gGP ?_ | refine qO (Q_index_own rfl rfl .ownp rfl TE.h TI.h (by omega) (by rw [List.length_append, List.length_cons]; omega)) ?_ | refine qQ (Q_index_own rfl rfl .ownp rfl TE.h TI.h (by omega) (by rw [List.length_append, List.length_cons]; omega)) ?_)
    refine VR_storeF (v := .i .i64 (kk)) rfl rfl .ownp hpl rfl rfl TI.h (by repeat constructor) .ownp (by repeat constructor) ?_
    refine gGO ?_
    refine ⟨i + 1, by omega, by omega, ⟨rfl, ⟨⟨rfl, rfl⟩, ⟨?_, rfl⟩, ⟨rfl, rfl⟩, trivial⟩, ⟨[], ?_⟩, rfl⟩⟩
    · rw [hn2]; rfl
    · rw [hn1, hpost, List.append_assoc]; rfl
  · refine V_exit ?_
    simp only [decide_eq_false_iff_not] at hc2
    rw [hlen] at hc2
    have hkl : i = us.length := by omega
    subst hkl
    show V _ _ _ _ _
    refine gGO ?_
    refine V_ret ?_
    refine ⟨trivial, ?_, [], ?_⟩
    · show SV.d (.i .i64 (U.mks (us.take us.length) k0).2) = _
      rw [List.take_length]
    · simp only [List.take_length, List.drop_length, List.append_nil]
theorem markIntS_all {us : List U} (h : us.length ≤ big ∧ ∀ x ∈ us, wt .int x) : PMk 65 (.sl 1 us) := markIntS_step h.1 h.2
set_option maxRecDepth 8000 in
set_option maxHeartbeats 8000000 in
theorem markDictionaryS_step {us : List U} (hl : us.length ≤ big) (hz : ∀ a ∈ us, wt (.st 26) a) (ih0 : ∀ (a_0 : Int) (a_1_0 : Int) (a_1_1 : Int) (a_2 : List U) (a_3 : List U), .st [.i .i64 a_0, .st [.i .i64 a_1_0, .i .i64 a_1_1], .sl 1 a_2, .sl 5 a_3] ∈ us → PMk 65 (.sl 1 a_2)) (ih1 : ∀ (a_0 : Int) (a_1_0 : Int) (a_1_1 : Int) (a_2 : List U) (a_3 : List U), .st [.i .i64 a_0, .st [.i .i64 a_1_0, .i .i64 a_1_1], .sl 1 a_2, .sl 5 a_3] ∈ us → PMk 23 (.sl 5 a_3)) : PMk 23 (.sl 5 us) := by
  intro k0 hk0 hk1
  have hlf : (U.sl 5 us).lf = U.lfs us := rfl
  rw [hlf] at hk1
  rw [big_eq] at hl
  show MSpec _ _ _ _ (.sl 5 (U.mks us k0).1) (U.mks us k0).2
  refine MSpec_intro (fun hv e => [.ownp (hv 0) (e 0) 5 us]) (fun hv e => [.ownp (hv 0) (e 0) 5 (U.mks us k0).1]) Tryz.func23 rfl (by kernel_rfl) rfl rfl (fun _ _ => .sl) (fun _ _ => .sl) rfl rfl fun A hv e _ => ?_
  refine gGO ?_
  refine V_block ?_
  refine V_loop (α := Nat)
    (fun i => ⟨[(0, .sl 0 0), (1, .d (.i .i64 (U.mks (us.take i) k0).2)), (5, .d (.i .i64 i))], [.ownp (hv 0) (e 0) 5 ((U.mks (us.take i) k0).1 ++ us.drop i)], Tryz.f23.ntmps⟩)
    (fun i => i ≤ us.length)
    (fun i => us.length - i) 0 ⟨rfl, ⟨⟨rfl, rfl⟩, ⟨rfl, rfl⟩, ⟨rfl, rfl⟩, trivial⟩, ⟨[], rfl⟩, rfl⟩ (by simp) ?_
  intro i hi
  have hlen : ((U.mks (us.take i) k0).1 ++ us.drop i).length = us.length := by simp [mks_len]; omega
  refine gGO ?_
  (first | refine V_cond rfl (fun hc2 => ?_) (fun hc2 => ?_) | refine V_seq (V_cond rfl (fun hc2 => ?_) (fun hc2 => ?_)))
  · refine V_skip ?_
    simp only [decide_eq_true_eq] at hc2
    rw [hlen] at hc2
    have hil : i < us.length := by omega
    obtain ⟨a, hget⟩ : ∃ a, us[i]? = some a := ⟨_, List.getElem?_eq_getElem hil⟩
    have hmem := List.mem_of_getElem? hget
    have hdrop := drop_get hget
    obtain ⟨hn1, hn2⟩ := mks_next hget k0
    have hmid := lfs_mid hget
    have hsnd := mks_snd (us.take i) k0
    have hpl : (U.mks (us.take i) k0).1.length = i := by simp [mks_len]; omega
    have hwa := hz a hmem
    obtain ⟨a_0, a_1, a_2, a_3, rfl, hwa_0, hwa_1, hwa_2, hwa_3⟩ := inv_Dictionary hwa
    obtain ⟨a_1_0, a_1_1, rfl, hwa_1_0, hwa_1_1⟩ := inv_InstanceRef hwa_1
    have hlfa : ((.st [.i .i64 a_0, .st [.i .i64 a_1_0, .i .i64 a_1_1], .sl 1 a_2, .sl 5 a_3]) : U).lf = 0 + 1 + 1 + 1 + U.lfs a_2 + U.lfs a_3 := by simp [U.lf, U.lfs] <;> omega
    rw [hlfa] at hmid
    refine V_cast [.ownp (hv 0) (e 0) 5 ((U.mks (us.take i) k0).1 ++ (.st [.i .i64 a_0, .st [.i .i64 a_1_0, .i .i64 a_1_1], .sl 1 a_2, .sl 5 a_3]) :: us.drop (i + 1))] (by rw [hdrop]) ?_
    have hkp : 0 < (U.mks (us.take i) k0).2 := by omega
    have hkb : (U.mks (us.take i) k0).2 + (0 + 1 + 1 + 1 + U.lfs a_2 + U.lfs a_3 : Nat) ≤ 4611686018427387904 := by omega
    have hlen' : ((U.mks (us.take i) k0).1 ++ (.st [.i .i64 a_0, .st [.i .i64 a_1_0, .i .i64 a_1_1], .sl 1 a_2, .sl 5 a_3]) :: us.drop (i + 1)).length = us.length := by rw [← hdrop]; exact hlen
    clear hdrop hsnd hlfa hmid hlen
    generalize (U.mks (us.take i) k0).1 = pre at hn1 hpl hlen' ⊢
    generalize (U.mks (us.take i) k0).2 = kk at hn1 hn2 hkp hkb ⊢
    generalize hpost : us.drop (i + 1) = post at hlen' ⊢
    rw [List.length_append, List.length_cons] at hlen'
    refine V_seq (V_block ?_)
    repeat (first | refine gGP ?_ | refine qO (Q_index_own rfl rfl .ownp rfl TE.h TI.h (by omega) (by rw [List.length_append, List.length_cons]; omega)) ?_ | refine qQ (Q_index_own rfl rfl .ownp rfl TE.h TI.h (by omega) (by rw [List.length_append, List.length_cons]; omega)) ?_)
    refine VR_storeF (v := .i .i64 (kk)) rfl rfl .ownp hpl rfl rfl TI.h (by repeat constructor) .ownp (by repeat constructor) ?_
    repeat (first | refine gGP ?_ | refine qO (Q_index_own rfl rfl .ownp rfl TE.h TI.h (by omega) (by rw [List.length_append, List.length_cons]; omega)) ?_ | refine qQ (Q_index_own rfl rfl .ownp rfl TE.h TI.h (by omega) (by rw [List.length_append, List.length_cons]; omega)) ?_)
    refine VR_storeF (v := .i .i64 (kk + 1)) rfl rfl .ownp hpl rfl rfl TI.h (by repeat constructor) .ownp (by repeat constructor) ?_
    repeat (first | refine gGP ?_ | refine qO (Q_index_own rfl rfl .ownp rfl TE.h TI.h (by omega) (by rw [List.length_append, List.length_cons]; omega)) ?_ | refine qQ (Q_index_own rfl rfl .ownp rfl TE.h TI.h (by omega) (by rw [List.length_append, List.length_cons]; omega)) ?_)
    refine VR_storeF (v := .i .i64 (kk + 1 + 1)) rfl rfl .ownp hpl rfl rfl TI.h (by repeat constructor) .ownp (by repeat constructor) ?_
    have hm3 := ih0 a_0 a_1_0 a_1_1 a_2 a_3 hmem (kk + 1 + 1 + 1) (by omega) (by simp only [U.lf]; omega)
    change MSpec _ _ _ _ (.sl 1 (U.mks a_2 (kk + 1 + 1 + 1)).1) (U.mks a_2 (kk + 1 + 1 + 1)).2 at hm3
    have hs3 := mks_snd a_2 (kk + 1 + 1 + 1)
    repeat (first | refine gGP ?_ | refine qO (Q_index_own rfl rfl .ownp rfl TE.h TI.h (by omega) (by rw [List.length_append, List.length_cons]; omega)) ?_ | refine qQ (Q_index_own rfl rfl .ownp rfl TE.h TI.h (by omega) (by rw [List.length_append, List.length_cons]; omega)) ?_)
    refine VR_markcall hm3 rfl rfl .ownp hpl TI.h (by repeat constructor) rfl rfl (by simp) .ownp (by repeat constructor) rfl rfl rfl (by decide) ?_
    have hm4 := ih1 a_0 a_1_0 a_1_1 a_2 a_3 hmem ((U.mks a_2 (kk + 1 + 1 + 1)).2) (by omega) (by simp only [U.lf]; omega)
    change MSpec _ _ _ _ (.sl 5 (U.mks a_3 ((U.mks a_2 (kk + 1 + 1 + 1)).2)).1) (U.mks a_3 ((U.mks a_2 (kk + 1 + 1 + 1)).2)).2 at hm4
    have hs4 := mks_snd a_3 ((U.mks a_2 (kk + 1 + 1 + 1)).2)
    repeat (first | refine gGP ?_ | refine qO (Q_index_own rfl rfl .ownp rfl TE.h TI.h (by omega) (by rw [List.length_append, List.length_cons]; omega)) ?_ | refine qQ (Q_index_own rfl rfl .ownp rfl TE.h TI.h (by omega) (by rw [List.length_append, List.length_cons]; omega)) ?_)
    refine VR_markcall hm4 rfl rfl .ownp hpl TI.h (by repeat constructor) rfl rfl (by simp) .ownp (by repeat constructor) rfl rfl rfl (by decide) ?_
    refine gGO ?_
    refine ⟨i + 1, by omega, by omega, ⟨rfl, ⟨⟨rfl, rfl⟩, ⟨?_, rfl⟩, ⟨rfl, rfl⟩, trivial⟩, ⟨[], ?_⟩, rfl⟩⟩
    · rw [hn2]; rfl
    · rw [hn1, hpost, List.append_assoc]; rfl
  · refine V_exit ?_
    simp only [decide_eq_false_iff_not] at hc2
    rw [hlen] at hc2
    have hkl : i = us.length := by omega
    subst hkl
    show V _ _ _ _ _
    refine gGO ?_
    refine V_ret ?_
    refine ⟨trivial, ?_, [], ?_⟩
    · show SV.d (.i .i64 (U.mks (us.take us.length) k0).2) = _
      rw [List.take_length]
    · simp only [List.take_length, List.drop_length, List.append_nil]
set_option maxRecDepth 8000 in
set_option maxHeartbeats 8000000 in
theorem markDictionary_step {f0 : Int} {f1 : U} {f2 : List U} {f3 : List U} (g1 : wt (.st 16) f1) (h2 : PMk 65 (.sl 1 f2)) (h3 : PMk 23 (.sl 5 f3)) : PMk 22 (.st [.i .i64 f0, f1, .sl 1 f2, .sl 5 f3]) := by
  intro k0 hk0 hk1
  obtain ⟨f1_0, f1_1, rfl, g1_0, g1_1⟩ := inv_InstanceRef g1
  have hlf : ((.st [.i .i64 f0, .st [.i .i64 f1_0, .i .i64 f1_1], .sl 1 f2, .sl 5 f3]) : U).lf = 0 + 1 + 1 + 1 + U.lfs f2 + U.lfs f3 := by simp [U.lf, U.lfs] <;> omega
  rw [hlf] at hk1
  show MSpec _ _ _ _ (.st [.i .i64 f0, .st [.i .i64 f1_0, .i .i64 f1_1], .sl 1 (U.mks f2 (k0)).1, .sl 5 (U.mks f3 ((U.mks f2 (k0)).2)).1]) ((U.mks f3 ((U.mks f2 (k0)).2)).2)
  refine MSpec_intro (fun hv e => [.ownp (hv 0) (e 0) 1 f2, .ownp (hv 1) (e 1) 5 f3]) (fun hv e => [.ownp (hv 0) (e 0) 1 (U.mks f2 (k0)).1, .ownp (hv 1) (e 1) 5 (U.mks f3 ((U.mks f2 (k0)).2)).1]) Tryz.func22 rfl (by kernel_rfl) rfl rfl (fun _ _ => by repeat constructor) (fun _ _ => by repeat constructor) rfl rfl fun A hv e _ => ?_
  have hm2 := h2 (k0) (by omega) (by simp only [U.lf, U.lfs]; omega)
  have hs_f2 := mks_snd f2 (k0)
  refine gGO ?_
  refine VO_callM rfl hm2 rfl rfl (by repeat (first | exact rfl | constructor)) rfl (by repeat constructor) rfl ?_
  have hm3 := h3 ((U.mks f2 (k0)).2) (by omega) (by simp only [U.lf, U.lfs]; omega)
  have hs_f3 := mks_snd f3 ((U.mks f2 (k0)).2)
  refine gGO ?_
  refine VO_callM rfl hm3 rfl rfl (by repeat (first | exact rfl | constructor)) rfl (by repeat constructor) rfl ?_
  refine gGO ?_
  refine V_ret ?_
  exact ⟨trivial, rfl, _, rfl⟩
theorem markDictionary_grp (u : U) : (∀ us, u = .sl 5 us → us.length ≤ big → (∀ x ∈ us, wt (.st 26) x) → PMk 23 u) := by
  refine U.ind (M := fun u => (∀ us, u = .sl 5 us → us.length ≤ big → (∀ x ∈ us, wt (.st 26) x) → PMk 23 u)) (fun u ih => ?_) u
  refine ?_
  · rintro us rfl hl hz
    exact markDictionaryS_step hl hz (fun a_0 a_1_0 a_1_1 a_2 a_3 ha => by obtain ⟨_, _, _, _, hx_a, qa_0, qa_1, qa_2, qa_3⟩ := inv_Dictionary (hz _ ha); cases hx_a; obtain ⟨_, _, hx_a_1, qa_1_0, qa_1_1⟩ := inv_InstanceRef qa_1; cases hx_a_1; exact markIntS_all qa_2) (fun a_0 a_1_0 a_1_1 a_2 a_3 ha => by obtain ⟨_, _, _, _, hx_a, qa_0, qa_1, qa_2, qa_3⟩ := inv_Dictionary (hz _ ha); cases hx_a; obtain ⟨_, _, hx_a_1, qa_1_0, qa_1_1⟩ := inv_InstanceRef qa_1; cases hx_a_1; exact (ih (.sl 5 a_3) (by have := nn_of_mem ha; simp only [U.nn, U.nns] at this ⊢; omega)) a_3 rfl qa_3.1 qa_3.2)
theorem markDictionaryS_all {us : List U} (h : us.length ≤ big ∧ ∀ x ∈ us, wt (.st 26) x) : PMk 23 (.sl 5 us) := (markDictionary_grp (.sl 5 us)) us rfl h.1 h.2
theorem markDictionary_all {u : U} (h : wt (.st 26) u) : PMk 22 u := by
  obtain ⟨f0, f1, f2, f3, rfl, p0, p1, p2, p3⟩ := inv_Dictionary h
  exact markDictionary_step p1 (markIntS_all p2) (markDictionaryS_all p3)
end Go.Proofs.YthojhakapbfbiaaGreat
