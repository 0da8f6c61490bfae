/- The contracts of the laws' own helpers that own or turn memory. Written by a program of mine (famO.py). -/
import Derived.Test.YtjckkahiapjkfaaOwnV
import Derived.Test.YtjckkahiapjkfaaEng28
set_option linter.unusedVariables false
set_option linter.unusedSimpArgs false
namespace Go.Proofs.Ytjckkahiapjkfaa
open Go Go.Eng
attribute [local irreducible] V VO VQ VY Quiet SpecP SpecO MSpec

theorem markText_all (k : Int) (h0 : 0 < k) (h1 : k ≤ 4611686018427387904) : SpecP Try.prog 37 [.d (.i .i64 k)] [.s (txt k)] := by
  obtain ⟨n, rfl⟩ := Int.eq_ofNat_of_zero_le (Int.le_of_lt h0)
  show SpecP _ _ [.d (.i .i64 (n : Int))] [.s (109 :: dg 64 n [])]
  have hl := dg_len 64 n []
  obtain ⟨out, hout⟩ : ∃ out, dg 64 n [] = out := ⟨_, rfl⟩
  rw [hout] at hl ⊢
  simp only [List.length_nil, Nat.zero_add] at hl
  refine SpecP_intro Try.func37 rfl (by kernel_rfl) rfl fun A => ?_
  repeat (first | refine VO_d ?_ | refine VQ_d ?_  | (first | refine VO_nil ?_ | refine VQ_nil ?_) | (first | refine V_seq_region ?_ | refine V_seq (V_seq_region ?_) | refine V_seq_draw tmix (by kernel_rfl) ?_ | refine V_seq (V_seq_draw tmix (by kernel_rfl) ?_) | refine V_region ?_ | refine V_draw tmix (by kernel_rfl) ?_))
  (first | refine V_cond rfl (fun hc => ?_) (fun hc => ?_) | refine V_seq (V_cond rfl (fun hc => ?_) (fun hc => ?_)))
  · simp at hc; omega
  refine V_skip ?_
  repeat (first | refine VO_d ?_ | refine VQ_d ?_  | (first | refine VO_nil ?_ | refine VQ_nil ?_) | (first | refine V_seq_region ?_ | refine V_seq (V_seq_region ?_) | refine V_seq_draw tmix (by kernel_rfl) ?_ | refine V_seq (V_seq_draw tmix (by kernel_rfl) ?_) | refine V_region ?_ | refine V_draw tmix (by kernel_rfl) ?_))
  refine V_seq (V_block ?_)
  refine V_loop (α := Nat × Nat × List UInt8)
    (fun x => ⟨[(0, .d (.i .i64 (x.2.1 : Int))), (3, .d (.s x.2.2))], [], Try.f37.ntmps⟩)
    (fun x => x.2.1 ≤ n ∧ dg x.1 x.2.1 x.2.2 = out ∧ x.2.2.length + x.1 ≤ 64 ∧ x.2.1 < 10 ^ x.1)
    (fun x => x.2.1) (64, n, []) ⟨rfl, ⟨⟨rfl, rfl⟩, ⟨rfl, rfl⟩, trivial⟩, ⟨[], rfl⟩, rfl⟩ ⟨Nat.le_refl _, hout, by simp, by simp only; omega⟩ ?_
  rintro ⟨f, m, acc⟩ ⟨j1, j2, j3, j4⟩
  simp only at j1 j2 j3 j4
  repeat (first | refine VO_d ?_ | refine VQ_d ?_  | (first | refine VO_nil ?_ | refine VQ_nil ?_) | (first | refine V_seq_region ?_ | refine V_seq (V_seq_region ?_) | refine V_seq_draw tmix (by kernel_rfl) ?_ | refine V_seq (V_seq_draw tmix (by kernel_rfl) ?_) | refine V_region ?_ | refine V_draw tmix (by kernel_rfl) ?_))
  (first | refine V_cond rfl (fun hc2 => ?_) (fun hc2 => ?_) | refine V_seq (V_cond rfl (fun hc2 => ?_) (fun hc2 => ?_)))
  · refine V_skip ?_
    simp only [gt_iff_lt, decide_eq_true_eq] at hc2
    cases f with
    | zero => simp at j4; omega
    | succ f =>
    rw [dg, if_neg (by omega)] at j2
    refine V_block ?_
    repeat (first | refine VO_d ?_ | refine VQ_d ?_ | (first | refine VO_q (Q_rem (n := 10) rfl rfl rfl) rfl ?_ | refine VQ_q (Q_rem (n := 10) rfl rfl rfl) rfl ?_ | (refine VO_bare rfl rfl rfl rfl ?_; refine VO_q (Q_rem (n := 10) rfl rfl rfl) rfl ?_) | refine VQ_run rfl rfl rfl rfl (Q_rem (n := 10) rfl rfl rfl) rfl ?_) | (first | refine VO_q (Q_convI rfl TU.h TU.h) rfl ?_ | refine VQ_q (Q_convI rfl TU.h TU.h) rfl ?_ | (refine VO_bare rfl rfl rfl rfl ?_; refine VO_q (Q_convI rfl TU.h TU.h) rfl ?_) | refine VQ_run rfl rfl rfl rfl (Q_convI rfl TU.h TU.h) rfl ?_) | (first | refine VO_nil ?_ | refine VQ_nil ?_) | (first | refine V_seq_region ?_ | refine V_seq (V_seq_region ?_) | refine V_seq_draw tmix (by kernel_rfl) ?_ | refine V_seq (V_seq_draw tmix (by kernel_rfl) ?_) | refine V_region ?_ | refine V_draw tmix (by kernel_rfl) ?_))
    refine VR_slit1 (by repeat constructor) (by decide) TE.h TI.h TZ.h rfl rfl rfl (by repeat constructor) (by repeat constructor) ?_
    repeat (first | refine VO_d ?_ | refine VQ_d ?_ | (first | refine VO_q (Q_convB1 rfl rfl (tyE_und TE.h) TU.h TS.h) rfl ?_ | refine VQ_q (Q_convB1 rfl rfl (tyE_und TE.h) TU.h TS.h) rfl ?_ | (refine VO_bare rfl rfl rfl rfl ?_; refine VO_q (Q_convB1 rfl rfl (tyE_und TE.h) TU.h TS.h) rfl ?_) | refine VQ_run rfl rfl rfl rfl (Q_convB1 rfl rfl (tyE_und TE.h) TU.h TS.h) rfl ?_) | (first | refine VO_q (Q_adds rfl rfl (by rw [big_eq]; simp only [List.length_cons, List.length_nil]; omega)) rfl ?_ | refine VQ_q (Q_adds rfl rfl (by rw [big_eq]; simp only [List.length_cons, List.length_nil]; omega)) rfl ?_ | (refine VO_bare rfl rfl rfl rfl ?_; refine VO_q (Q_adds rfl rfl (by rw [big_eq]; simp only [List.length_cons, List.length_nil]; omega)) rfl ?_) | refine VQ_run rfl rfl rfl rfl (Q_adds rfl rfl (by rw [big_eq]; simp only [List.length_cons, List.length_nil]; omega)) rfl ?_) | (first | refine VO_q (Q_quo (m := m) (n := 10) rfl rfl rfl (by omega)) rfl ?_ | refine VQ_q (Q_quo (m := m) (n := 10) rfl rfl rfl (by omega)) rfl ?_ | (refine VO_bare rfl rfl rfl rfl ?_; refine VO_q (Q_quo (m := m) (n := 10) rfl rfl rfl (by omega)) rfl ?_) | refine VQ_run rfl rfl rfl rfl (Q_quo (m := m) (n := 10) rfl rfl rfl (by omega)) rfl ?_) | (first | refine VO_nil ?_ | refine VQ_nil ?_) | (first | refine V_seq_region ?_ | refine V_seq (V_seq_region ?_) | refine V_seq_draw tmix (by kernel_rfl) ?_ | refine V_seq (V_seq_draw tmix (by kernel_rfl) ?_) | refine V_region ?_ | refine V_draw tmix (by kernel_rfl) ?_))
    refine ⟨(f, m / 10, _ :: acc), ⟨?_, j2, ?_, ?_⟩, ?_, ⟨rfl, ⟨⟨rfl, rfl⟩, ⟨rfl, rfl⟩, trivial⟩, ⟨_, rfl⟩, rfl⟩⟩
    · simp only; omega
    · simp only [List.length_cons]; omega
    · simp only; rw [Nat.pow_succ] at j4; omega
    · simp only; omega
  refine V_exit ?_
  simp only [gt_iff_lt, decide_eq_false_iff_not] at hc2
  have hm : m = 0 := by omega
  subst hm
  have hacc : acc = out := by
    cases f with
    | zero => exact j2
    | succ f => rw [dg, if_pos rfl] at j2; exact j2
  subst hacc
  show V _ _ _ _ _
  repeat (first | refine VO_d ?_ | refine VQ_d ?_ | (first | refine VO_q (Q_adds rfl rfl (by rw [big_eq]; simp only [List.length_cons, List.length_nil]; omega)) rfl ?_ | refine VQ_q (Q_adds rfl rfl (by rw [big_eq]; simp only [List.length_cons, List.length_nil]; omega)) rfl ?_ | (refine VO_bare rfl rfl rfl rfl ?_; refine VO_q (Q_adds rfl rfl (by rw [big_eq]; simp only [List.length_cons, List.length_nil]; omega)) rfl ?_) | refine VQ_run rfl rfl rfl rfl (Q_adds rfl rfl (by rw [big_eq]; simp only [List.length_cons, List.length_nil]; omega)) rfl ?_) | (first | refine VO_nil ?_ | refine VQ_nil ?_) | (first | refine V_seq_region ?_ | refine V_seq (V_seq_region ?_) | refine V_seq_draw tmix (by kernel_rfl) ?_ | refine V_seq (V_seq_draw tmix (by kernel_rfl) ?_) | refine V_region ?_ | refine V_draw tmix (by kernel_rfl) ?_))
  refine V_ret ?_
  exact ⟨trivial, ⟨_, rfl, rfl⟩, trivial⟩

set_option maxHeartbeats 8000000 in
theorem markIntS_step {us : List U} (hl : us.length ≤ big) (hz : ∀ a ∈ us, wt (.int) a) : PMk 85 (.sl 1 us) := by
  intro k0 hk0 hk1
  have hlf : (U.sl 1 us).lf = U.lfs us := rfl
  rw [hlf] at hk1
  rw [big_eq] at hl
  show MSpec _ _ _ _ (.sl 1 (U.mks us k0).1) (U.mks us k0).2
  refine MSpec_intro (fun hv e => [.ownp (hv 0) (e 0) 1 us]) (fun hv e => [.ownp (hv 0) (e 0) 1 (U.mks us k0).1]) Try.func85 rfl (by kernel_rfl) rfl rfl (fun _ _ => .sl) (fun _ _ => .sl) rfl rfl fun A hv e => ?_
  repeat (first | refine VO_d ?_ | refine VQ_d ?_  | (first | refine VO_nil ?_ | refine VQ_nil ?_) | (first | refine V_seq_region ?_ | refine V_seq (V_seq_region ?_) | refine V_seq_draw tmix (by kernel_rfl) ?_ | refine V_seq (V_seq_draw tmix (by kernel_rfl) ?_) | refine V_region ?_ | refine V_draw tmix (by kernel_rfl) ?_))
  refine V_block ?_
  refine V_loop (α := Nat)
    (fun i => ⟨[(0, .sl 0 0), (1, .d (.i .i64 (U.mks (us.take i) k0).2)), (5, .d (.i .i64 i))], [.ownp (hv 0) (e 0) 1 ((U.mks (us.take i) k0).1 ++ us.drop i)], Try.f85.ntmps⟩)
    (fun i => i ≤ us.length)
    (fun i => us.length - i) 0 ⟨rfl, ⟨⟨rfl, rfl⟩, ⟨rfl, rfl⟩, ⟨rfl, rfl⟩, trivial⟩, ⟨[], rfl⟩, rfl⟩ (by simp) ?_
  intro i hi
  have hlen : ((U.mks (us.take i) k0).1 ++ us.drop i).length = us.length := by simp [mks_len]; omega
  repeat (first | refine VO_d ?_ | refine VQ_d ?_  | (first | refine VO_nil ?_ | refine VQ_nil ?_) | (first | refine V_seq_region ?_ | refine V_seq (V_seq_region ?_) | refine V_seq_draw tmix (by kernel_rfl) ?_ | refine V_seq (V_seq_draw tmix (by kernel_rfl) ?_) | refine V_region ?_ | refine V_draw tmix (by kernel_rfl) ?_))
  (first | refine V_cond rfl (fun hc2 => ?_) (fun hc2 => ?_) | refine V_seq (V_cond rfl (fun hc2 => ?_) (fun hc2 => ?_)))
  · refine V_skip ?_
    simp only [decide_eq_true_eq] at hc2
    rw [hlen] at hc2
    have hil : i < us.length := by omega
    obtain ⟨a, hget⟩ : ∃ a, us[i]? = some a := ⟨_, List.getElem?_eq_getElem hil⟩
    have hmem := List.mem_of_getElem? hget
    have hdrop := drop_get hget
    obtain ⟨hn1, hn2⟩ := mks_next hget k0
    have hmid := lfs_mid hget
    have hsnd := mks_snd (us.take i) k0
    have hpl : (U.mks (us.take i) k0).1.length = i := by simp [mks_len]; omega
    obtain ⟨a, rfl, _⟩ := inv_int (hz a hmem)
    have hlfa : ((.i .i64 a) : U).lf = 0 + 1 := by simp [U.lf, U.lfs]
    rw [hlfa] at hmid
    refine V_cast [.ownp (hv 0) (e 0) 1 ((U.mks (us.take i) k0).1 ++ (.i .i64 a) :: us.drop (i + 1))] (by rw [hdrop]) ?_
    have hkp : 0 < (U.mks (us.take i) k0).2 := by omega
    have hkb : (U.mks (us.take i) k0).2 + (0 + 1 : Nat) ≤ 4611686018427387904 := by omega
    have hlen' : ((U.mks (us.take i) k0).1 ++ (.i .i64 a) :: us.drop (i + 1)).length = us.length := by rw [← hdrop]; exact hlen
    clear hdrop hsnd hlfa hmid hlen
    generalize (U.mks (us.take i) k0).1 = pre at hn1 hpl hlen' ⊢
    generalize (U.mks (us.take i) k0).2 = kk at hn1 hn2 hkp hkb ⊢
    generalize hpost : us.drop (i + 1) = post at hlen' ⊢
    rw [List.length_append, List.length_cons] at hlen'
    refine V_seq (V_block ?_)
    repeat (first | refine VO_d ?_ | refine VQ_d ?_ | (first | refine VO_q (Q_index_own rfl rfl .ownp rfl TE.h TI.h (by omega) (by rw [List.length_append, List.length_cons]; omega)) rfl ?_ | refine VQ_q (Q_index_own rfl rfl .ownp rfl TE.h TI.h (by omega) (by rw [List.length_append, List.length_cons]; omega)) rfl ?_ | (refine VO_bare rfl rfl rfl rfl ?_; refine VO_q (Q_index_own rfl rfl .ownp rfl TE.h TI.h (by omega) (by rw [List.length_append, List.length_cons]; omega)) rfl ?_) | refine VQ_run rfl rfl rfl rfl (Q_index_own rfl rfl .ownp rfl TE.h TI.h (by omega) (by rw [List.length_append, List.length_cons]; omega)) rfl ?_) | (first | refine VO_nil ?_ | refine VQ_nil ?_) | (first | refine V_seq_region ?_ | refine V_seq (V_seq_region ?_) | refine V_seq_draw tmix (by kernel_rfl) ?_ | refine V_seq (V_seq_draw tmix (by kernel_rfl) ?_) | refine V_region ?_ | refine V_draw tmix (by kernel_rfl) ?_))
    refine VR_storeF (v := .i .i64 (kk)) rfl rfl .ownp hpl rfl rfl TI.h (by repeat constructor) .ownp (by repeat constructor) ?_
    repeat (first | refine VO_d ?_ | refine VQ_d ?_  | (first | refine VO_nil ?_ | refine VQ_nil ?_) | (first | refine V_seq_region ?_ | refine V_seq (V_seq_region ?_) | refine V_seq_draw tmix (by kernel_rfl) ?_ | refine V_seq (V_seq_draw tmix (by kernel_rfl) ?_) | refine V_region ?_ | refine V_draw tmix (by kernel_rfl) ?_))
    refine ⟨i + 1, by omega, by omega, ⟨rfl, ⟨⟨rfl, rfl⟩, ⟨?_, rfl⟩, ⟨rfl, rfl⟩, trivial⟩, ⟨[], ?_⟩, rfl⟩⟩
    · rw [hn2]; rfl
    · rw [hn1, hpost, List.append_assoc]; rfl
  · refine V_exit ?_
    simp only [decide_eq_false_iff_not] at hc2
    rw [hlen] at hc2
    have hkl : i = us.length := by omega
    subst hkl
    show V _ _ _ _ _
    repeat (first | refine VO_d ?_ | refine VQ_d ?_  | (first | refine VO_nil ?_ | refine VQ_nil ?_) | (first | refine V_seq_region ?_ | refine V_seq (V_seq_region ?_) | refine V_seq_draw tmix (by kernel_rfl) ?_ | refine V_seq (V_seq_draw tmix (by kernel_rfl) ?_) | refine V_region ?_ | refine V_draw tmix (by kernel_rfl) ?_))
    refine V_ret ?_
    refine ⟨trivial, ?_, [], ?_⟩
    · show SV.d (.i .i64 (U.mks (us.take us.length) k0).2) = _
      rw [List.take_length]
    · simp only [List.take_length, List.drop_length, List.append_nil]

theorem markIntS_all {us : List U} (h : us.length ≤ big ∧ ∀ x ∈ us, wt .int x) : PMk 85 (.sl 1 us) := markIntS_step h.1 h.2
set_option maxHeartbeats 8000000 in
theorem markDictionaryS_step {us : List U} (hl : us.length ≤ big) (hz : ∀ a ∈ us, wt (.st 26) a) (ih0 : ∀ (a_0 : Int) (a_1_0 : Int) (a_1_1 : Int) (a_2 : List U) (a_3 : List U), .st [.i .i64 a_0, .st [.i .i64 a_1_0, .i .i64 a_1_1], .sl 1 a_2, .sl 5 a_3] ∈ us → PMk 85 (.sl 1 a_2)) (ih1 : ∀ (a_0 : Int) (a_1_0 : Int) (a_1_1 : Int) (a_2 : List U) (a_3 : List U), .st [.i .i64 a_0, .st [.i .i64 a_1_0, .i .i64 a_1_1], .sl 1 a_2, .sl 5 a_3] ∈ us → PMk 86 (.sl 5 a_3)) : PMk 86 (.sl 5 us) := by
  intro k0 hk0 hk1
  have hlf : (U.sl 5 us).lf = U.lfs us := rfl
  rw [hlf] at hk1
  rw [big_eq] at hl
  show MSpec _ _ _ _ (.sl 5 (U.mks us k0).1) (U.mks us k0).2
  refine MSpec_intro (fun hv e => [.ownp (hv 0) (e 0) 5 us]) (fun hv e => [.ownp (hv 0) (e 0) 5 (U.mks us k0).1]) Try.func86 rfl (by kernel_rfl) rfl rfl (fun _ _ => .sl) (fun _ _ => .sl) rfl rfl fun A hv e => ?_
  repeat (first | refine VO_d ?_ | refine VQ_d ?_  | (first | refine VO_nil ?_ | refine VQ_nil ?_) | (first | refine V_seq_region ?_ | refine V_seq (V_seq_region ?_) | refine V_seq_draw tmix (by kernel_rfl) ?_ | refine V_seq (V_seq_draw tmix (by kernel_rfl) ?_) | refine V_region ?_ | refine V_draw tmix (by kernel_rfl) ?_))
  refine V_block ?_
  refine V_loop (α := Nat)
    (fun i => ⟨[(0, .sl 0 0), (1, .d (.i .i64 (U.mks (us.take i) k0).2)), (5, .d (.i .i64 i))], [.ownp (hv 0) (e 0) 5 ((U.mks (us.take i) k0).1 ++ us.drop i)], Try.f86.ntmps⟩)
    (fun i => i ≤ us.length)
    (fun i => us.length - i) 0 ⟨rfl, ⟨⟨rfl, rfl⟩, ⟨rfl, rfl⟩, ⟨rfl, rfl⟩, trivial⟩, ⟨[], rfl⟩, rfl⟩ (by simp) ?_
  intro i hi
  have hlen : ((U.mks (us.take i) k0).1 ++ us.drop i).length = us.length := by simp [mks_len]; omega
  repeat (first | refine VO_d ?_ | refine VQ_d ?_  | (first | refine VO_nil ?_ | refine VQ_nil ?_) | (first | refine V_seq_region ?_ | refine V_seq (V_seq_region ?_) | refine V_seq_draw tmix (by kernel_rfl) ?_ | refine V_seq (V_seq_draw tmix (by kernel_rfl) ?_) | refine V_region ?_ | refine V_draw tmix (by kernel_rfl) ?_))
  (first | refine V_cond rfl (fun hc2 => ?_) (fun hc2 => ?_) | refine V_seq (V_cond rfl (fun hc2 => ?_) (fun hc2 => ?_)))
  · refine V_skip ?_
    simp only [decide_eq_true_eq] at hc2
    rw [hlen] at hc2
    have hil : i < us.length := by omega
    obtain ⟨a, hget⟩ : ∃ a, us[i]? = some a := ⟨_, List.getElem?_eq_getElem hil⟩
    have hmem := List.mem_of_getElem? hget
    have hdrop := drop_get hget
    obtain ⟨hn1, hn2⟩ := mks_next hget k0
    have hmid := lfs_mid hget
    have hsnd := mks_snd (us.take i) k0
    have hpl : (U.mks (us.take i) k0).1.length = i := by simp [mks_len]; omega
    have hwa := hz a hmem
    obtain ⟨a_0, a_1, a_2, a_3, rfl, hwa_0, hwa_1, hwa_2, hwa_3⟩ := inv_Dictionary hwa
    obtain ⟨a_1_0, a_1_1, rfl, hwa_1_0, hwa_1_1⟩ := inv_InstanceRef hwa_1
    have hlfa : ((.st [.i .i64 a_0, .st [.i .i64 a_1_0, .i .i64 a_1_1], .sl 1 a_2, .sl 5 a_3]) : U).lf = 0 + 1 + 1 + 1 + U.lfs a_2 + U.lfs a_3 := by simp [U.lf, U.lfs]; omega
    rw [hlfa] at hmid
    refine V_cast [.ownp (hv 0) (e 0) 5 ((U.mks (us.take i) k0).1 ++ (.st [.i .i64 a_0, .st [.i .i64 a_1_0, .i .i64 a_1_1], .sl 1 a_2, .sl 5 a_3]) :: us.drop (i + 1))] (by rw [hdrop]) ?_
    have hkp : 0 < (U.mks (us.take i) k0).2 := by omega
    have hkb : (U.mks (us.take i) k0).2 + (0 + 1 + 1 + 1 + U.lfs a_2 + U.lfs a_3 : Nat) ≤ 4611686018427387904 := by omega
    have hlen' : ((U.mks (us.take i) k0).1 ++ (.st [.i .i64 a_0, .st [.i .i64 a_1_0, .i .i64 a_1_1], .sl 1 a_2, .sl 5 a_3]) :: us.drop (i + 1)).length = us.length := by rw [← hdrop]; exact hlen
    clear hdrop hsnd hlfa hmid hlen
    generalize (U.mks (us.take i) k0).1 = pre at hn1 hpl hlen' ⊢
    generalize (U.mks (us.take i) k0).2 = kk at hn1 hn2 hkp hkb ⊢
    generalize hpost : us.drop (i + 1) = post at hlen' ⊢
    rw [List.length_append, List.length_cons] at hlen'
    refine V_seq (V_block ?_)
    repeat (first | refine VO_d ?_ | refine VQ_d ?_ | (first | refine VO_q (Q_index_own rfl rfl .ownp rfl TE.h TI.h (by omega) (by rw [List.length_append, List.length_cons]; omega)) rfl ?_ | refine VQ_q (Q_index_own rfl rfl .ownp rfl TE.h TI.h (by omega) (by rw [List.length_append, List.length_cons]; omega)) rfl ?_ | (refine VO_bare rfl rfl rfl rfl ?_; refine VO_q (Q_index_own rfl rfl .ownp rfl TE.h TI.h (by omega) (by rw [List.length_append, List.length_cons]; omega)) rfl ?_) | refine VQ_run rfl rfl rfl rfl (Q_index_own rfl rfl .ownp rfl TE.h TI.h (by omega) (by rw [List.length_append, List.length_cons]; omega)) rfl ?_) | (first | refine VO_nil ?_ | refine VQ_nil ?_) | (first | refine V_seq_region ?_ | refine V_seq (V_seq_region ?_) | refine V_seq_draw tmix (by kernel_rfl) ?_ | refine V_seq (V_seq_draw tmix (by kernel_rfl) ?_) | refine V_region ?_ | refine V_draw tmix (by kernel_rfl) ?_))
    refine VR_storeF (v := .i .i64 (kk)) rfl rfl .ownp hpl rfl rfl TI.h (by repeat constructor) .ownp (by repeat constructor) ?_
    repeat (first | refine VO_d ?_ | refine VQ_d ?_ | (first | refine VO_q (Q_index_own rfl rfl .ownp rfl TE.h TI.h (by omega) (by rw [List.length_append, List.length_cons]; omega)) rfl ?_ | refine VQ_q (Q_index_own rfl rfl .ownp rfl TE.h TI.h (by omega) (by rw [List.length_append, List.length_cons]; omega)) rfl ?_ | (refine VO_bare rfl rfl rfl rfl ?_; refine VO_q (Q_index_own rfl rfl .ownp rfl TE.h TI.h (by omega) (by rw [List.length_append, List.length_cons]; omega)) rfl ?_) | refine VQ_run rfl rfl rfl rfl (Q_index_own rfl rfl .ownp rfl TE.h TI.h (by omega) (by rw [List.length_append, List.length_cons]; omega)) rfl ?_) | (first | refine VO_nil ?_ | refine VQ_nil ?_) | (first | refine V_seq_region ?_ | refine V_seq (V_seq_region ?_) | refine V_seq_draw tmix (by kernel_rfl) ?_ | refine V_seq (V_seq_draw tmix (by kernel_rfl) ?_) | refine V_region ?_ | refine V_draw tmix (by kernel_rfl) ?_))
    refine VR_storeF (v := .i .i64 (kk + 1)) rfl rfl .ownp hpl rfl rfl TI.h (by repeat constructor) .ownp (by repeat constructor) ?_
    repeat (first | refine VO_d ?_ | refine VQ_d ?_ | (first | refine VO_q (Q_index_own rfl rfl .ownp rfl TE.h TI.h (by omega) (by rw [List.length_append, List.length_cons]; omega)) rfl ?_ | refine VQ_q (Q_index_own rfl rfl .ownp rfl TE.h TI.h (by omega) (by rw [List.length_append, List.length_cons]; omega)) rfl ?_ | (refine VO_bare rfl rfl rfl rfl ?_; refine VO_q (Q_index_own rfl rfl .ownp rfl TE.h TI.h (by omega) (by rw [List.length_append, List.length_cons]; omega)) rfl ?_) | refine VQ_run rfl rfl rfl rfl (Q_index_own rfl rfl .ownp rfl TE.h TI.h (by omega) (by rw [List.length_append, List.length_cons]; omega)) rfl ?_) | (first | refine VO_nil ?_ | refine VQ_nil ?_) | (first | refine V_seq_region ?_ | refine V_seq (V_seq_region ?_) | refine V_seq_draw tmix (by kernel_rfl) ?_ | refine V_seq (V_seq_draw tmix (by kernel_rfl) ?_) | refine V_region ?_ | refine V_draw tmix (by kernel_rfl) ?_))
    refine VR_storeF (v := .i .i64 (kk + 1 + 1)) rfl rfl .ownp hpl rfl rfl TI.h (by repeat constructor) .ownp (by repeat constructor) ?_
    have hm3 := ih0 a_0 a_1_0 a_1_1 a_2 a_3 hmem (kk + 1 + 1 + 1) (by omega) (by simp only [U.lf]; omega)
    have hs3 := mks_snd a_2 (kk + 1 + 1 + 1)
    repeat (first | refine VO_d ?_ | refine VQ_d ?_ | (first | refine VO_q (Q_index_own rfl rfl .ownp rfl TE.h TI.h (by omega) (by rw [List.length_append, List.length_cons]; omega)) rfl ?_ | refine VQ_q (Q_index_own rfl rfl .ownp rfl TE.h TI.h (by omega) (by rw [List.length_append, List.length_cons]; omega)) rfl ?_ | (refine VO_bare rfl rfl rfl rfl ?_; refine VO_q (Q_index_own rfl rfl .ownp rfl TE.h TI.h (by omega) (by rw [List.length_append, List.length_cons]; omega)) rfl ?_) | refine VQ_run rfl rfl rfl rfl (Q_index_own rfl rfl .ownp rfl TE.h TI.h (by omega) (by rw [List.length_append, List.length_cons]; omega)) rfl ?_) | (first | refine VO_nil ?_ | refine VQ_nil ?_) | (first | refine V_seq_region ?_ | refine V_seq (V_seq_region ?_) | refine V_seq_draw tmix (by kernel_rfl) ?_ | refine V_seq (V_seq_draw tmix (by kernel_rfl) ?_) | refine V_region ?_ | refine V_draw tmix (by kernel_rfl) ?_))
    refine VR_markcall hm3 rfl rfl .ownp hpl TI.h (by repeat constructor) rfl rfl (by simp) .ownp (by repeat constructor) rfl rfl rfl (by decide) ?_
    have hm4 := ih1 a_0 a_1_0 a_1_1 a_2 a_3 hmem ((U.mks a_2 (kk + 1 + 1 + 1)).2) (by omega) (by simp only [U.lf]; omega)
    have hs4 := mks_snd a_3 ((U.mks a_2 (kk + 1 + 1 + 1)).2)
    repeat (first | refine VO_d ?_ | refine VQ_d ?_ | (first | refine VO_q (Q_index_own rfl rfl .ownp rfl TE.h TI.h (by omega) (by rw [List.length_append, List.length_cons]; omega)) rfl ?_ | refine VQ_q (Q_index_own rfl rfl .ownp rfl TE.h TI.h (by omega) (by rw [List.length_append, List.length_cons]; omega)) rfl ?_ | (refine VO_bare rfl rfl rfl rfl ?_; refine VO_q (Q_index_own rfl rfl .ownp rfl TE.h TI.h (by omega) (by rw [List.length_append, List.length_cons]; omega)) rfl ?_) | refine VQ_run rfl rfl rfl rfl (Q_index_own rfl rfl .ownp rfl TE.h TI.h (by omega) (by rw [List.length_append, List.length_cons]; omega)) rfl ?_) | (first | refine VO_nil ?_ | refine VQ_nil ?_) | (first | refine V_seq_region ?_ | refine V_seq (V_seq_region ?_) | refine V_seq_draw tmix (by kernel_rfl) ?_ | refine V_seq (V_seq_draw tmix (by kernel_rfl) ?_) | refine V_region ?_ | refine V_draw tmix (by kernel_rfl) ?_))
    refine VR_markcall hm4 rfl rfl .ownp hpl TI.h (by repeat constructor) rfl rfl (by simp) .ownp (by repeat constructor) rfl rfl rfl (by decide) ?_
    repeat (first | refine VO_d ?_ | refine VQ_d ?_  | (first | refine VO_nil ?_ | refine VQ_nil ?_) | (first | refine V_seq_region ?_ | refine V_seq (V_seq_region ?_) | refine V_seq_draw tmix (by kernel_rfl) ?_ | refine V_seq (V_seq_draw tmix (by kernel_rfl) ?_) | refine V_region ?_ | refine V_draw tmix (by kernel_rfl) ?_))
    refine ⟨i + 1, by omega, by omega, ⟨rfl, ⟨⟨rfl, rfl⟩, ⟨?_, rfl⟩, ⟨rfl, rfl⟩, trivial⟩, ⟨[], ?_⟩, rfl⟩⟩
    · rw [hn2]; rfl
    · rw [hn1, hpost, List.append_assoc]; rfl
  · refine V_exit ?_
    simp only [decide_eq_false_iff_not] at hc2
    rw [hlen] at hc2
    have hkl : i = us.length := by omega
    subst hkl
    show V _ _ _ _ _
    repeat (first | refine VO_d ?_ | refine VQ_d ?_  | (first | refine VO_nil ?_ | refine VQ_nil ?_) | (first | refine V_seq_region ?_ | refine V_seq (V_seq_region ?_) | refine V_seq_draw tmix (by kernel_rfl) ?_ | refine V_seq (V_seq_draw tmix (by kernel_rfl) ?_) | refine V_region ?_ | refine V_draw tmix (by kernel_rfl) ?_))
    refine V_ret ?_
    refine ⟨trivial, ?_, [], ?_⟩
    · show SV.d (.i .i64 (U.mks (us.take us.length) k0).2) = _
      rw [List.take_length]
    · simp only [List.take_length, List.drop_length, List.append_nil]

set_option maxHeartbeats 8000000 in
theorem markDictionary_step {f0 : Int} {f1 : U} {f2 : List U} {f3 : List U} (g1 : wt (.st 16) f1) (h2 : PMk 85 (.sl 1 f2)) (h3 : PMk 86 (.sl 5 f3)) : PMk 48 (.st [.i .i64 f0, f1, .sl 1 f2, .sl 5 f3]) := by
  intro k0 hk0 hk1
  obtain ⟨f1_0, f1_1, rfl, g1_0, g1_1⟩ := inv_InstanceRef g1
  have hlf : ((.st [.i .i64 f0, .st [.i .i64 f1_0, .i .i64 f1_1], .sl 1 f2, .sl 5 f3]) : U).lf = 0 + 1 + 1 + 1 + U.lfs f2 + U.lfs f3 := by simp [U.lf, U.lfs]; omega
  rw [hlf] at hk1
  show MSpec _ _ _ _ (.st [.i .i64 f0, .st [.i .i64 f1_0, .i .i64 f1_1], .sl 1 (U.mks f2 (k0)).1, .sl 5 (U.mks f3 ((U.mks f2 (k0)).2)).1]) ((U.mks f3 ((U.mks f2 (k0)).2)).2)
  refine MSpec_intro (fun hv e => [.ownp (hv 0) (e 0) 1 f2, .ownp (hv 1) (e 1) 5 f3]) (fun hv e => [.ownp (hv 0) (e 0) 1 (U.mks f2 (k0)).1, .ownp (hv 1) (e 1) 5 (U.mks f3 ((U.mks f2 (k0)).2)).1]) Try.func48 rfl (by kernel_rfl) rfl rfl (fun _ _ => by repeat constructor) (fun _ _ => by repeat constructor) rfl rfl fun A hv e => ?_
  have hm2 := h2 (k0) (by omega) (by simp only [U.lf, U.lfs]; omega)
  have hs_f2 := mks_snd f2 (k0)
  repeat (first | refine VO_d ?_ | refine VQ_d ?_  | (first | refine VO_nil ?_ | refine VQ_nil ?_) | (first | refine V_seq_region ?_ | refine V_seq (V_seq_region ?_) | refine V_seq_draw tmix (by kernel_rfl) ?_ | refine V_seq (V_seq_draw tmix (by kernel_rfl) ?_) | refine V_region ?_ | refine V_draw tmix (by kernel_rfl) ?_))
  refine VO_callM rfl hm2 rfl rfl (by repeat (first | exact rfl | constructor)) rfl (by repeat constructor) rfl ?_
  have hm3 := h3 ((U.mks f2 (k0)).2) (by omega) (by simp only [U.lf, U.lfs]; omega)
  have hs_f3 := mks_snd f3 ((U.mks f2 (k0)).2)
  repeat (first | refine VO_d ?_ | refine VQ_d ?_  | (first | refine VO_nil ?_ | refine VQ_nil ?_) | (first | refine V_seq_region ?_ | refine V_seq (V_seq_region ?_) | refine V_seq_draw tmix (by kernel_rfl) ?_ | refine V_seq (V_seq_draw tmix (by kernel_rfl) ?_) | refine V_region ?_ | refine V_draw tmix (by kernel_rfl) ?_))
  refine VO_callM rfl hm3 rfl rfl (by repeat (first | exact rfl | constructor)) rfl (by repeat constructor) rfl ?_
  repeat (first | refine VO_d ?_ | refine VQ_d ?_  | (first | refine VO_nil ?_ | refine VQ_nil ?_) | (first | refine V_seq_region ?_ | refine V_seq (V_seq_region ?_) | refine V_seq_draw tmix (by kernel_rfl) ?_ | refine V_seq (V_seq_draw tmix (by kernel_rfl) ?_) | refine V_region ?_ | refine V_draw tmix (by kernel_rfl) ?_))
  refine V_ret ?_
  exact ⟨trivial, rfl, _, rfl⟩

theorem markDictionary_grp (u : U) : (∀ us, u = .sl 5 us → us.length ≤ big → (∀ x ∈ us, wt (.st 26) x) → PMk 86 u) := by
  refine U.ind (M := fun u => (∀ us, u = .sl 5 us → us.length ≤ big → (∀ x ∈ us, wt (.st 26) x) → PMk 86 u)) (fun u ih => ?_) u
  refine ?_
  · rintro us rfl hl hz
    exact markDictionaryS_step hl hz (fun a_0 a_1_0 a_1_1 a_2 a_3 ha => by obtain ⟨_, _, _, _, hx_a, qa_0, qa_1, qa_2, qa_3⟩ := inv_Dictionary (hz _ ha); cases hx_a; obtain ⟨_, _, hx_a_1, qa_1_0, qa_1_1⟩ := inv_InstanceRef qa_1; cases hx_a_1; exact markIntS_all qa_2) (fun a_0 a_1_0 a_1_1 a_2 a_3 ha => by obtain ⟨_, _, _, _, hx_a, qa_0, qa_1, qa_2, qa_3⟩ := inv_Dictionary (hz _ ha); cases hx_a; obtain ⟨_, _, hx_a_1, qa_1_0, qa_1_1⟩ := inv_InstanceRef qa_1; cases hx_a_1; exact (ih (.sl 5 a_3) (by have := nn_of_mem ha; simp only [U.nn, U.nns] at this ⊢; omega)) a_3 rfl qa_3.1 qa_3.2)
theorem markDictionaryS_all {us : List U} (h : us.length ≤ big ∧ ∀ x ∈ us, wt (.st 26) x) : PMk 86 (.sl 5 us) := (markDictionary_grp (.sl 5 us)) us rfl h.1 h.2
theorem markDictionary_all {u : U} (h : wt (.st 26) u) : PMk 48 u := by
  obtain ⟨f0, f1, f2, f3, rfl, p0, p1, p2, p3⟩ := inv_Dictionary h
  exact markDictionary_step p1 (markIntS_all p2) (markDictionaryS_all p3)

set_option maxHeartbeats 8000000 in
theorem markValueS_step {us : List U} (hl : us.length ≤ big) (hz : ∀ a ∈ us, wt (.st 27) a) (ih0 : ∀ (a_0 : Int) (a_1 : Int) (a_2 : List UInt8) (a_3_0 : Int) (a_3_1_0 : Int) (a_3_1_1 : Int) (a_3_2 : List U) (a_3_3 : List U) (a_4 : List U), .st [.i .i64 a_0, .i .i64 a_1, .s a_2, .st [.i .i64 a_3_0, .st [.i .i64 a_3_1_0, .i .i64 a_3_1_1], .sl 1 a_3_2, .sl 5 a_3_3], .sl 9 a_4] ∈ us → PMk 85 (.sl 1 a_3_2)) (ih1 : ∀ (a_0 : Int) (a_1 : Int) (a_2 : List UInt8) (a_3_0 : Int) (a_3_1_0 : Int) (a_3_1_1 : Int) (a_3_2 : List U) (a_3_3 : List U) (a_4 : List U), .st [.i .i64 a_0, .i .i64 a_1, .s a_2, .st [.i .i64 a_3_0, .st [.i .i64 a_3_1_0, .i .i64 a_3_1_1], .sl 1 a_3_2, .sl 5 a_3_3], .sl 9 a_4] ∈ us → PMk 86 (.sl 5 a_3_3)) (ih2 : ∀ (a_0 : Int) (a_1 : Int) (a_2 : List UInt8) (a_3_0 : Int) (a_3_1_0 : Int) (a_3_1_1 : Int) (a_3_2 : List U) (a_3_3 : List U) (a_4 : List U), .st [.i .i64 a_0, .i .i64 a_1, .s a_2, .st [.i .i64 a_3_0, .st [.i .i64 a_3_1_0, .i .i64 a_3_1_1], .sl 1 a_3_2, .sl 5 a_3_3], .sl 9 a_4] ∈ us → PMk 49 (.sl 9 a_4)) : PMk 49 (.sl 9 us) := by
  intro k0 hk0 hk1
  have hlf : (U.sl 9 us).lf = U.lfs us := rfl
  rw [hlf] at hk1
  rw [big_eq] at hl
  show MSpec _ _ _ _ (.sl 9 (U.mks us k0).1) (U.mks us k0).2
  refine MSpec_intro (fun hv e => [.ownp (hv 0) (e 0) 9 us]) (fun hv e => [.ownp (hv 0) (e 0) 9 (U.mks us k0).1]) Try.func49 rfl (by kernel_rfl) rfl rfl (fun _ _ => .sl) (fun _ _ => .sl) rfl rfl fun A hv e => ?_
  repeat (first | refine VO_d ?_ | refine VQ_d ?_  | (first | refine VO_nil ?_ | refine VQ_nil ?_) | (first | refine V_seq_region ?_ | refine V_seq (V_seq_region ?_) | refine V_seq_draw tmix (by kernel_rfl) ?_ | refine V_seq (V_seq_draw tmix (by kernel_rfl) ?_) | refine V_region ?_ | refine V_draw tmix (by kernel_rfl) ?_))
  refine V_block ?_
  refine V_loop (α := Nat)
    (fun i => ⟨[(0, .sl 0 0), (1, .d (.i .i64 (U.mks (us.take i) k0).2)), (5, .d (.i .i64 i))], [.ownp (hv 0) (e 0) 9 ((U.mks (us.take i) k0).1 ++ us.drop i)], Try.f49.ntmps⟩)
    (fun i => i ≤ us.length)
    (fun i => us.length - i) 0 ⟨rfl, ⟨⟨rfl, rfl⟩, ⟨rfl, rfl⟩, ⟨rfl, rfl⟩, trivial⟩, ⟨[], rfl⟩, rfl⟩ (by simp) ?_
  intro i hi
  have hlen : ((U.mks (us.take i) k0).1 ++ us.drop i).length = us.length := by simp [mks_len]; omega
  repeat (first | refine VO_d ?_ | refine VQ_d ?_  | (first | refine VO_nil ?_ | refine VQ_nil ?_) | (first | refine V_seq_region ?_ | refine V_seq (V_seq_region ?_) | refine V_seq_draw tmix (by kernel_rfl) ?_ | refine V_seq (V_seq_draw tmix (by kernel_rfl) ?_) | refine V_region ?_ | refine V_draw tmix (by kernel_rfl) ?_))
  (first | refine V_cond rfl (fun hc2 => ?_) (fun hc2 => ?_) | refine V_seq (V_cond rfl (fun hc2 => ?_) (fun hc2 => ?_)))
  · refine V_skip ?_
    simp only [decide_eq_true_eq] at hc2
    rw [hlen] at hc2
    have hil : i < us.length := by omega
    obtain ⟨a, hget⟩ : ∃ a, us[i]? = some a := ⟨_, List.getElem?_eq_getElem hil⟩
    have hmem := List.mem_of_getElem? hget
    have hdrop := drop_get hget
    obtain ⟨hn1, hn2⟩ := mks_next hget k0
    have hmid := lfs_mid hget
    have hsnd := mks_snd (us.take i) k0
    have hpl : (U.mks (us.take i) k0).1.length = i := by simp [mks_len]; omega
    have hwa := hz a hmem
    obtain ⟨a_0, a_1, a_2, a_3, a_4, rfl, hwa_0, hwa_1, hwa_2, hwa_3, hwa_4⟩ := inv_Value hwa
    obtain ⟨a_3_0, a_3_1, a_3_2, a_3_3, rfl, hwa_3_0, hwa_3_1, hwa_3_2, hwa_3_3⟩ := inv_Dictionary hwa_3
    obtain ⟨a_3_1_0, a_3_1_1, rfl, hwa_3_1_0, hwa_3_1_1⟩ := inv_InstanceRef hwa_3_1
    have hlfa : ((.st [.i .i64 a_0, .i .i64 a_1, .s a_2, .st [.i .i64 a_3_0, .st [.i .i64 a_3_1_0, .i .i64 a_3_1_1], .sl 1 a_3_2, .sl 5 a_3_3], .sl 9 a_4]) : U).lf = 0 + 1 + 1 + 1 + 1 + 1 + 1 + U.lfs a_3_2 + U.lfs a_3_3 + U.lfs a_4 := by simp [U.lf, U.lfs]; omega
    rw [hlfa] at hmid
    refine V_cast [.ownp (hv 0) (e 0) 9 ((U.mks (us.take i) k0).1 ++ (.st [.i .i64 a_0, .i .i64 a_1, .s a_2, .st [.i .i64 a_3_0, .st [.i .i64 a_3_1_0, .i .i64 a_3_1_1], .sl 1 a_3_2, .sl 5 a_3_3], .sl 9 a_4]) :: us.drop (i + 1))] (by rw [hdrop]) ?_
    have hkp : 0 < (U.mks (us.take i) k0).2 := by omega
    have hkb : (U.mks (us.take i) k0).2 + (0 + 1 + 1 + 1 + 1 + 1 + 1 + U.lfs a_3_2 + U.lfs a_3_3 + U.lfs a_4 : Nat) ≤ 4611686018427387904 := by omega
    have hlen' : ((U.mks (us.take i) k0).1 ++ (.st [.i .i64 a_0, .i .i64 a_1, .s a_2, .st [.i .i64 a_3_0, .st [.i .i64 a_3_1_0, .i .i64 a_3_1_1], .sl 1 a_3_2, .sl 5 a_3_3], .sl 9 a_4]) :: us.drop (i + 1)).length = us.length := by rw [← hdrop]; exact hlen
    clear hdrop hsnd hlfa hmid hlen
    generalize (U.mks (us.take i) k0).1 = pre at hn1 hpl hlen' ⊢
    generalize (U.mks (us.take i) k0).2 = kk at hn1 hn2 hkp hkb ⊢
    generalize hpost : us.drop (i + 1) = post at hlen' ⊢
    rw [List.length_append, List.length_cons] at hlen'
    refine V_seq (V_block ?_)
    repeat (first | refine VO_d ?_ | refine VQ_d ?_ | (first | refine VO_q (Q_index_own rfl rfl .ownp rfl TE.h TI.h (by omega) (by rw [List.length_append, List.length_cons]; omega)) rfl ?_ | refine VQ_q (Q_index_own rfl rfl .ownp rfl TE.h TI.h (by omega) (by rw [List.length_append, List.length_cons]; omega)) rfl ?_ | (refine VO_bare rfl rfl rfl rfl ?_; refine VO_q (Q_index_own rfl rfl .ownp rfl TE.h TI.h (by omega) (by rw [List.length_append, List.length_cons]; omega)) rfl ?_) | refine VQ_run rfl rfl rfl rfl (Q_index_own rfl rfl .ownp rfl TE.h TI.h (by omega) (by rw [List.length_append, List.length_cons]; omega)) rfl ?_) | (first | refine VO_nil ?_ | refine VQ_nil ?_) | (first | refine V_seq_region ?_ | refine V_seq (V_seq_region ?_) | refine V_seq_draw tmix (by kernel_rfl) ?_ | refine V_seq (V_seq_draw tmix (by kernel_rfl) ?_) | refine V_region ?_ | refine V_draw tmix (by kernel_rfl) ?_))
    refine VR_storeF (v := .i .i64 (kk)) rfl rfl .ownp hpl rfl rfl TI.h (by repeat constructor) .ownp (by repeat constructor) ?_
    repeat (first | refine VO_d ?_ | refine VQ_d ?_ | (first | refine VO_q (Q_index_own rfl rfl .ownp rfl TE.h TI.h (by omega) (by rw [List.length_append, List.length_cons]; omega)) rfl ?_ | refine VQ_q (Q_index_own rfl rfl .ownp rfl TE.h TI.h (by omega) (by rw [List.length_append, List.length_cons]; omega)) rfl ?_ | (refine VO_bare rfl rfl rfl rfl ?_; refine VO_q (Q_index_own rfl rfl .ownp rfl TE.h TI.h (by omega) (by rw [List.length_append, List.length_cons]; omega)) rfl ?_) | refine VQ_run rfl rfl rfl rfl (Q_index_own rfl rfl .ownp rfl TE.h TI.h (by omega) (by rw [List.length_append, List.length_cons]; omega)) rfl ?_) | (first | refine VO_nil ?_ | refine VQ_nil ?_) | (first | refine V_seq_region ?_ | refine V_seq (V_seq_region ?_) | refine V_seq_draw tmix (by kernel_rfl) ?_ | refine V_seq (V_seq_draw tmix (by kernel_rfl) ?_) | refine V_region ?_ | refine V_draw tmix (by kernel_rfl) ?_))
    refine VR_storeF (v := .i .i64 (kk + 1)) rfl rfl .ownp hpl rfl rfl TI.h (by repeat constructor) .ownp (by repeat constructor) ?_
    have ht2 := markText_all (kk + 1 + 1) (by omega) (by omega)
    repeat (first | refine VO_d ?_ | refine VQ_d ?_ | (first | refine VO_q (Q_index_own rfl rfl .ownp rfl TE.h TI.h (by omega) (by rw [List.length_append, List.length_cons]; omega)) rfl ?_ | refine VQ_q (Q_index_own rfl rfl .ownp rfl TE.h TI.h (by omega) (by rw [List.length_append, List.length_cons]; omega)) rfl ?_ | (refine VO_bare rfl rfl rfl rfl ?_; refine VO_q (Q_index_own rfl rfl .ownp rfl TE.h TI.h (by omega) (by rw [List.length_append, List.length_cons]; omega)) rfl ?_) | refine VQ_run rfl rfl rfl rfl (Q_index_own rfl rfl .ownp rfl TE.h TI.h (by omega) (by rw [List.length_append, List.length_cons]; omega)) rfl ?_) | (first | refine VO_q (Q_call rfl ht2 (by (repeat (first | exact trivial | exact rfl | exact ⟨_, rfl⟩ | refine And.intro ?_ ?_)); first | done | fail)) rfl ?_ | refine VQ_q (Q_call rfl ht2 (by (repeat (first | exact trivial | exact rfl | exact ⟨_, rfl⟩ | refine And.intro ?_ ?_)); first | done | fail)) rfl ?_ | (refine VO_bare rfl rfl rfl rfl ?_; refine VO_q (Q_call rfl ht2 (by (repeat (first | exact trivial | exact rfl | exact ⟨_, rfl⟩ | refine And.intro ?_ ?_)); first | done | fail)) rfl ?_) | refine VQ_run rfl rfl rfl rfl (Q_call rfl ht2 (by (repeat (first | exact trivial | exact rfl | exact ⟨_, rfl⟩ | refine And.intro ?_ ?_)); first | done | fail)) rfl ?_) | (first | refine VO_nil ?_ | refine VQ_nil ?_) | (first | refine V_seq_region ?_ | refine V_seq (V_seq_region ?_) | refine V_seq_draw tmix (by kernel_rfl) ?_ | refine V_seq (V_seq_draw tmix (by kernel_rfl) ?_) | refine V_region ?_ | refine V_draw tmix (by kernel_rfl) ?_))
    refine VR_storeF (v := .s (txt (kk + 1 + 1))) rfl rfl .ownp hpl rfl rfl TI.h (by repeat constructor) .ownp (by repeat constructor) ?_
    repeat (first | refine VO_d ?_ | refine VQ_d ?_ | (first | refine VO_q (Q_index_own rfl rfl .ownp rfl TE.h TI.h (by omega) (by rw [List.length_append, List.length_cons]; omega)) rfl ?_ | refine VQ_q (Q_index_own rfl rfl .ownp rfl TE.h TI.h (by omega) (by rw [List.length_append, List.length_cons]; omega)) rfl ?_ | (refine VO_bare rfl rfl rfl rfl ?_; refine VO_q (Q_index_own rfl rfl .ownp rfl TE.h TI.h (by omega) (by rw [List.length_append, List.length_cons]; omega)) rfl ?_) | refine VQ_run rfl rfl rfl rfl (Q_index_own rfl rfl .ownp rfl TE.h TI.h (by omega) (by rw [List.length_append, List.length_cons]; omega)) rfl ?_) | (first | refine VO_nil ?_ | refine VQ_nil ?_) | (first | refine V_seq_region ?_ | refine V_seq (V_seq_region ?_) | refine V_seq_draw tmix (by kernel_rfl) ?_ | refine V_seq (V_seq_draw tmix (by kernel_rfl) ?_) | refine V_region ?_ | refine V_draw tmix (by kernel_rfl) ?_))
    refine VR_storeF (v := .i .i64 (kk + 1 + 1 + 1)) rfl rfl .ownp hpl rfl rfl TI.h (by repeat constructor) .ownp (by repeat constructor) ?_
    repeat (first | refine VO_d ?_ | refine VQ_d ?_ | (first | refine VO_q (Q_index_own rfl rfl .ownp rfl TE.h TI.h (by omega) (by rw [List.length_append, List.length_cons]; omega)) rfl ?_ | refine VQ_q (Q_index_own rfl rfl .ownp rfl TE.h TI.h (by omega) (by rw [List.length_append, List.length_cons]; omega)) rfl ?_ | (refine VO_bare rfl rfl rfl rfl ?_; refine VO_q (Q_index_own rfl rfl .ownp rfl TE.h TI.h (by omega) (by rw [List.length_append, List.length_cons]; omega)) rfl ?_) | refine VQ_run rfl rfl rfl rfl (Q_index_own rfl rfl .ownp rfl TE.h TI.h (by omega) (by rw [List.length_append, List.length_cons]; omega)) rfl ?_) | (first | refine VO_nil ?_ | refine VQ_nil ?_) | (first | refine V_seq_region ?_ | refine V_seq (V_seq_region ?_) | refine V_seq_draw tmix (by kernel_rfl) ?_ | refine V_seq (V_seq_draw tmix (by kernel_rfl) ?_) | refine V_region ?_ | refine V_draw tmix (by kernel_rfl) ?_))
    refine VR_storeF (v := .i .i64 (kk + 1 + 1 + 1 + 1)) rfl rfl .ownp hpl rfl rfl TI.h (by repeat constructor) .ownp (by repeat constructor) ?_
    repeat (first | refine VO_d ?_ | refine VQ_d ?_ | (first | refine VO_q (Q_index_own rfl rfl .ownp rfl TE.h TI.h (by omega) (by rw [List.length_append, List.length_cons]; omega)) rfl ?_ | refine VQ_q (Q_index_own rfl rfl .ownp rfl TE.h TI.h (by omega) (by rw [List.length_append, List.length_cons]; omega)) rfl ?_ | (refine VO_bare rfl rfl rfl rfl ?_; refine VO_q (Q_index_own rfl rfl .ownp rfl TE.h TI.h (by omega) (by rw [List.length_append, List.length_cons]; omega)) rfl ?_) | refine VQ_run rfl rfl rfl rfl (Q_index_own rfl rfl .ownp rfl TE.h TI.h (by omega) (by rw [List.length_append, List.length_cons]; omega)) rfl ?_) | (first | refine VO_nil ?_ | refine VQ_nil ?_) | (first | refine V_seq_region ?_ | refine V_seq (V_seq_region ?_) | refine V_seq_draw tmix (by kernel_rfl) ?_ | refine V_seq (V_seq_draw tmix (by kernel_rfl) ?_) | refine V_region ?_ | refine V_draw tmix (by kernel_rfl) ?_))
    refine VR_storeF (v := .i .i64 (kk + 1 + 1 + 1 + 1 + 1)) rfl rfl .ownp hpl rfl rfl TI.h (by repeat constructor) .ownp (by repeat constructor) ?_
    have hm6 := ih0 a_0 a_1 a_2 a_3_0 a_3_1_0 a_3_1_1 a_3_2 a_3_3 a_4 hmem (kk + 1 + 1 + 1 + 1 + 1 + 1) (by omega) (by simp only [U.lf]; omega)
    have hs6 := mks_snd a_3_2 (kk + 1 + 1 + 1 + 1 + 1 + 1)
    repeat (first | refine VO_d ?_ | refine VQ_d ?_ | (first | refine VO_q (Q_index_own rfl rfl .ownp rfl TE.h TI.h (by omega) (by rw [List.length_append, List.length_cons]; omega)) rfl ?_ | refine VQ_q (Q_index_own rfl rfl .ownp rfl TE.h TI.h (by omega) (by rw [List.length_append, List.length_cons]; omega)) rfl ?_ | (refine VO_bare rfl rfl rfl rfl ?_; refine VO_q (Q_index_own rfl rfl .ownp rfl TE.h TI.h (by omega) (by rw [List.length_append, List.length_cons]; omega)) rfl ?_) | refine VQ_run rfl rfl rfl rfl (Q_index_own rfl rfl .ownp rfl TE.h TI.h (by omega) (by rw [List.length_append, List.length_cons]; omega)) rfl ?_) | (first | refine VO_nil ?_ | refine VQ_nil ?_) | (first | refine V_seq_region ?_ | refine V_seq (V_seq_region ?_) | refine V_seq_draw tmix (by kernel_rfl) ?_ | refine V_seq (V_seq_draw tmix (by kernel_rfl) ?_) | refine V_region ?_ | refine V_draw tmix (by kernel_rfl) ?_))
    refine VR_markcall hm6 rfl rfl .ownp hpl TI.h (by repeat constructor) rfl rfl (by simp) .ownp (by repeat constructor) rfl rfl rfl (by decide) ?_
    have hm7 := ih1 a_0 a_1 a_2 a_3_0 a_3_1_0 a_3_1_1 a_3_2 a_3_3 a_4 hmem ((U.mks a_3_2 (kk + 1 + 1 + 1 + 1 + 1 + 1)).2) (by omega) (by simp only [U.lf]; omega)
    have hs7 := mks_snd a_3_3 ((U.mks a_3_2 (kk + 1 + 1 + 1 + 1 + 1 + 1)).2)
    repeat (first | refine VO_d ?_ | refine VQ_d ?_ | (first | refine VO_q (Q_index_own rfl rfl .ownp rfl TE.h TI.h (by omega) (by rw [List.length_append, List.length_cons]; omega)) rfl ?_ | refine VQ_q (Q_index_own rfl rfl .ownp rfl TE.h TI.h (by omega) (by rw [List.length_append, List.length_cons]; omega)) rfl ?_ | (refine VO_bare rfl rfl rfl rfl ?_; refine VO_q (Q_index_own rfl rfl .ownp rfl TE.h TI.h (by omega) (by rw [List.length_append, List.length_cons]; omega)) rfl ?_) | refine VQ_run rfl rfl rfl rfl (Q_index_own rfl rfl .ownp rfl TE.h TI.h (by omega) (by rw [List.length_append, List.length_cons]; omega)) rfl ?_) | (first | refine VO_nil ?_ | refine VQ_nil ?_) | (first | refine V_seq_region ?_ | refine V_seq (V_seq_region ?_) | refine V_seq_draw tmix (by kernel_rfl) ?_ | refine V_seq (V_seq_draw tmix (by kernel_rfl) ?_) | refine V_region ?_ | refine V_draw tmix (by kernel_rfl) ?_))
    refine VR_markcall hm7 rfl rfl .ownp hpl TI.h (by repeat constructor) rfl rfl (by simp) .ownp (by repeat constructor) rfl rfl rfl (by decide) ?_
    have hm8 := ih2 a_0 a_1 a_2 a_3_0 a_3_1_0 a_3_1_1 a_3_2 a_3_3 a_4 hmem ((U.mks a_3_3 ((U.mks a_3_2 (kk + 1 + 1 + 1 + 1 + 1 + 1)).2)).2) (by omega) (by simp only [U.lf]; omega)
    have hs8 := mks_snd a_4 ((U.mks a_3_3 ((U.mks a_3_2 (kk + 1 + 1 + 1 + 1 + 1 + 1)).2)).2)
    repeat (first | refine VO_d ?_ | refine VQ_d ?_ | (first | refine VO_q (Q_index_own rfl rfl .ownp rfl TE.h TI.h (by omega) (by rw [List.length_append, List.length_cons]; omega)) rfl ?_ | refine VQ_q (Q_index_own rfl rfl .ownp rfl TE.h TI.h (by omega) (by rw [List.length_append, List.length_cons]; omega)) rfl ?_ | (refine VO_bare rfl rfl rfl rfl ?_; refine VO_q (Q_index_own rfl rfl .ownp rfl TE.h TI.h (by omega) (by rw [List.length_append, List.length_cons]; omega)) rfl ?_) | refine VQ_run rfl rfl rfl rfl (Q_index_own rfl rfl .ownp rfl TE.h TI.h (by omega) (by rw [List.length_append, List.length_cons]; omega)) rfl ?_) | (first | refine VO_nil ?_ | refine VQ_nil ?_) | (first | refine V_seq_region ?_ | refine V_seq (V_seq_region ?_) | refine V_seq_draw tmix (by kernel_rfl) ?_ | refine V_seq (V_seq_draw tmix (by kernel_rfl) ?_) | refine V_region ?_ | refine V_draw tmix (by kernel_rfl) ?_))
    refine VR_markcall hm8 rfl rfl .ownp hpl TI.h (by repeat constructor) rfl rfl (by simp) .ownp (by repeat constructor) rfl rfl rfl (by decide) ?_
    repeat (first | refine VO_d ?_ | refine VQ_d ?_  | (first | refine VO_nil ?_ | refine VQ_nil ?_) | (first | refine V_seq_region ?_ | refine V_seq (V_seq_region ?_) | refine V_seq_draw tmix (by kernel_rfl) ?_ | refine V_seq (V_seq_draw tmix (by kernel_rfl) ?_) | refine V_region ?_ | refine V_draw tmix (by kernel_rfl) ?_))
    refine ⟨i + 1, by omega, by omega, ⟨rfl, ⟨⟨rfl, rfl⟩, ⟨?_, rfl⟩, ⟨rfl, rfl⟩, trivial⟩, ⟨[], ?_⟩, rfl⟩⟩
    · rw [hn2]; rfl
    · rw [hn1, hpost, List.append_assoc]; rfl
  · refine V_exit ?_
    simp only [decide_eq_false_iff_not] at hc2
    rw [hlen] at hc2
    have hkl : i = us.length := by omega
    subst hkl
    show V _ _ _ _ _
    repeat (first | refine VO_d ?_ | refine VQ_d ?_  | (first | refine VO_nil ?_ | refine VQ_nil ?_) | (first | refine V_seq_region ?_ | refine V_seq (V_seq_region ?_) | refine V_seq_draw tmix (by kernel_rfl) ?_ | refine V_seq (V_seq_draw tmix (by kernel_rfl) ?_) | refine V_region ?_ | refine V_draw tmix (by kernel_rfl) ?_))
    refine V_ret ?_
    refine ⟨trivial, ?_, [], ?_⟩
    · show SV.d (.i .i64 (U.mks (us.take us.length) k0).2) = _
      rw [List.take_length]
    · simp only [List.take_length, List.drop_length, List.append_nil]

set_option maxHeartbeats 8000000 in
theorem markValue_step {f0 : Int} {f1 : Int} {f2 : List UInt8} {f3 : U} {f4 : List U} (g3 : wt (.st 26) f3) (h3 : PMk 48 f3) (h4 : PMk 49 (.sl 9 f4)) : PMk 20 (.st [.i .i64 f0, .i .i64 f1, .s f2, f3, .sl 9 f4]) := by
  intro k0 hk0 hk1
  obtain ⟨f3_0, f3_1, f3_2, f3_3, rfl, g3_0, g3_1, g3_2, g3_3⟩ := inv_Dictionary g3
  obtain ⟨f3_1_0, f3_1_1, rfl, g3_1_0, g3_1_1⟩ := inv_InstanceRef g3_1
  have hlf : ((.st [.i .i64 f0, .i .i64 f1, .s f2, .st [.i .i64 f3_0, .st [.i .i64 f3_1_0, .i .i64 f3_1_1], .sl 1 f3_2, .sl 5 f3_3], .sl 9 f4]) : U).lf = 0 + 1 + 1 + 1 + 1 + 1 + 1 + U.lfs f3_2 + U.lfs f3_3 + U.lfs f4 := by simp [U.lf, U.lfs]; omega
  rw [hlf] at hk1
  show MSpec _ _ _ _ (.st [.i .i64 f0, .i .i64 f1, .s f2, .st [.i .i64 f3_0, .st [.i .i64 f3_1_0, .i .i64 f3_1_1], .sl 1 (U.mks f3_2 (k0)).1, .sl 5 (U.mks f3_3 ((U.mks f3_2 (k0)).2)).1], .sl 9 (U.mks f4 ((U.mks f3_3 ((U.mks f3_2 (k0)).2)).2)).1]) ((U.mks f4 ((U.mks f3_3 ((U.mks f3_2 (k0)).2)).2)).2)
  refine MSpec_intro (fun hv e => [.ownp (hv 0) (e 0) 1 f3_2, .ownp (hv 1) (e 1) 5 f3_3, .ownp (hv 2) (e 2) 9 f4]) (fun hv e => [.ownp (hv 0) (e 0) 1 (U.mks f3_2 (k0)).1, .ownp (hv 1) (e 1) 5 (U.mks f3_3 ((U.mks f3_2 (k0)).2)).1, .ownp (hv 2) (e 2) 9 (U.mks f4 ((U.mks f3_3 ((U.mks f3_2 (k0)).2)).2)).1]) Try.func20 rfl (by kernel_rfl) rfl rfl (fun _ _ => by repeat constructor) (fun _ _ => by repeat constructor) rfl rfl fun A hv e => ?_
  have hm3 := h3 (k0) (by omega) (by simp only [U.lf, U.lfs]; omega)
  have hs_f3_2 := mks_snd f3_2 (k0)
  have hs_f3_3 := mks_snd f3_3 ((U.mks f3_2 (k0)).2)
  repeat (first | refine VO_d ?_ | refine VQ_d ?_  | (first | refine VO_nil ?_ | refine VQ_nil ?_) | (first | refine V_seq_region ?_ | refine V_seq (V_seq_region ?_) | refine V_seq_draw tmix (by kernel_rfl) ?_ | refine V_seq (V_seq_draw tmix (by kernel_rfl) ?_) | refine V_region ?_ | refine V_draw tmix (by kernel_rfl) ?_))
  refine VO_callM rfl hm3 rfl rfl (by repeat (first | exact rfl | constructor)) rfl (by repeat constructor) rfl ?_
  have hm4 := h4 ((U.mks f3_3 ((U.mks f3_2 (k0)).2)).2) (by omega) (by simp only [U.lf, U.lfs]; omega)
  have hs_f4 := mks_snd f4 ((U.mks f3_3 ((U.mks f3_2 (k0)).2)).2)
  repeat (first | refine VO_d ?_ | refine VQ_d ?_  | (first | refine VO_nil ?_ | refine VQ_nil ?_) | (first | refine V_seq_region ?_ | refine V_seq (V_seq_region ?_) | refine V_seq_draw tmix (by kernel_rfl) ?_ | refine V_seq (V_seq_draw tmix (by kernel_rfl) ?_) | refine V_region ?_ | refine V_draw tmix (by kernel_rfl) ?_))
  refine VO_callM rfl hm4 rfl rfl (by repeat (first | exact rfl | constructor)) rfl (by repeat constructor) rfl ?_
  repeat (first | refine VO_d ?_ | refine VQ_d ?_  | (first | refine VO_nil ?_ | refine VQ_nil ?_) | (first | refine V_seq_region ?_ | refine V_seq (V_seq_region ?_) | refine V_seq_draw tmix (by kernel_rfl) ?_ | refine V_seq (V_seq_draw tmix (by kernel_rfl) ?_) | refine V_region ?_ | refine V_draw tmix (by kernel_rfl) ?_))
  refine V_ret ?_
  exact ⟨trivial, rfl, _, rfl⟩

theorem markValue_grp (u : U) : (∀ us, u = .sl 9 us → us.length ≤ big → (∀ x ∈ us, wt (.st 27) x) → PMk 49 u) := by
  refine U.ind (M := fun u => (∀ us, u = .sl 9 us → us.length ≤ big → (∀ x ∈ us, wt (.st 27) x) → PMk 49 u)) (fun u ih => ?_) u
  refine ?_
  · rintro us rfl hl hz
    exact markValueS_step hl hz (fun a_0 a_1 a_2 a_3_0 a_3_1_0 a_3_1_1 a_3_2 a_3_3 a_4 ha => by obtain ⟨_, _, _, _, _, hx_a, qa_0, qa_1, qa_2, qa_3, qa_4⟩ := inv_Value (hz _ ha); cases hx_a; obtain ⟨_, _, _, _, hx_a_3, qa_3_0, qa_3_1, qa_3_2, qa_3_3⟩ := inv_Dictionary qa_3; cases hx_a_3; obtain ⟨_, _, hx_a_3_1, qa_3_1_0, qa_3_1_1⟩ := inv_InstanceRef qa_3_1; cases hx_a_3_1; exact markIntS_all qa_3_2) (fun a_0 a_1 a_2 a_3_0 a_3_1_0 a_3_1_1 a_3_2 a_3_3 a_4 ha => by obtain ⟨_, _, _, _, _, hx_a, qa_0, qa_1, qa_2, qa_3, qa_4⟩ := inv_Value (hz _ ha); cases hx_a; obtain ⟨_, _, _, _, hx_a_3, qa_3_0, qa_3_1, qa_3_2, qa_3_3⟩ := inv_Dictionary qa_3; cases hx_a_3; obtain ⟨_, _, hx_a_3_1, qa_3_1_0, qa_3_1_1⟩ := inv_InstanceRef qa_3_1; cases hx_a_3_1; exact markDictionaryS_all qa_3_3) (fun a_0 a_1 a_2 a_3_0 a_3_1_0 a_3_1_1 a_3_2 a_3_3 a_4 ha => by obtain ⟨_, _, _, _, _, hx_a, qa_0, qa_1, qa_2, qa_3, qa_4⟩ := inv_Value (hz _ ha); cases hx_a; obtain ⟨_, _, _, _, hx_a_3, qa_3_0, qa_3_1, qa_3_2, qa_3_3⟩ := inv_Dictionary qa_3; cases hx_a_3; obtain ⟨_, _, hx_a_3_1, qa_3_1_0, qa_3_1_1⟩ := inv_InstanceRef qa_3_1; cases hx_a_3_1; exact (ih (.sl 9 a_4) (by have := nn_of_mem ha; simp only [U.nn, U.nns] at this ⊢; omega)) a_4 rfl qa_4.1 qa_4.2)
theorem markValueS_all {us : List U} (h : us.length ≤ big ∧ ∀ x ∈ us, wt (.st 27) x) : PMk 49 (.sl 9 us) := (markValue_grp (.sl 9 us)) us rfl h.1 h.2
theorem markValue_all {u : U} (h : wt (.st 27) u) : PMk 20 u := by
  obtain ⟨f0, f1, f2, f3, f4, rfl, p0, p1, p2, p3, p4⟩ := inv_Value h
  exact markValue_step p3 (markDictionary_all p3) (markValueS_all p4)

set_option maxHeartbeats 8000000 in
theorem heldIntS_step {us : List U} (hl : us.length ≤ big) (hz : ∀ a ∈ us, wt (.int) a) : PHe 87 (.sl 1 us) := by
  intro k0 hk0 hk1
  have hlf : (U.sl 1 us).lf = U.lfs us := rfl
  rw [hlf] at hk1
  rw [big_eq] at hl
  show SpecP _ _ [.d (.sl 1 (U.mks us k0).1), .d (.i .i64 k0)] [.i .i64 (U.mks us k0).2]
  obtain ⟨ms, hms⟩ : ∃ ms, (U.mks us k0).1 = ms := ⟨_, rfl⟩
  have hml : ms.length = us.length := by rw [← hms, mks_len]
  have hel : ∀ (i : Nat) (a : U), us[i]? = some a → ms[i]? = some (a.mk (U.mks (us.take i) k0).2).1 := fun i a h => by rw [← hms]; exact mks_get h k0
  rw [hms]
  refine SpecP_intro Try.func87 rfl (by kernel_rfl) rfl fun A => ?_
  repeat (first | refine VO_d ?_ | refine VQ_d ?_  | (first | refine VO_nil ?_ | refine VQ_nil ?_) | (first | refine V_seq_region ?_ | refine V_seq (V_seq_region ?_) | refine V_seq_draw tmix (by kernel_rfl) ?_ | refine V_seq (V_seq_draw tmix (by kernel_rfl) ?_) | refine V_region ?_ | refine V_draw tmix (by kernel_rfl) ?_))
  refine V_block ?_
  refine V_loop (α := Nat)
    (fun i => ⟨[(0, .d (.sl 1 ms)), (1, .d (.i .i64 (U.mks (us.take i) k0).2)), (5, .d (.i .i64 i))], [], Try.f87.ntmps⟩)
    (fun i => i ≤ us.length)
    (fun i => us.length - i) 0 ⟨rfl, ⟨⟨rfl, rfl⟩, ⟨rfl, rfl⟩, ⟨rfl, rfl⟩, trivial⟩, ⟨[], rfl⟩, rfl⟩ (by simp) ?_
  intro i hi
  repeat (first | refine VO_d ?_ | refine VQ_d ?_  | (first | refine VO_nil ?_ | refine VQ_nil ?_) | (first | refine V_seq_region ?_ | refine V_seq (V_seq_region ?_) | refine V_seq_draw tmix (by kernel_rfl) ?_ | refine V_seq (V_seq_draw tmix (by kernel_rfl) ?_) | refine V_region ?_ | refine V_draw tmix (by kernel_rfl) ?_))
  (first | refine V_cond rfl (fun hc2 => ?_) (fun hc2 => ?_) | refine V_seq (V_cond rfl (fun hc2 => ?_) (fun hc2 => ?_)))
  · refine V_skip ?_
    simp only [decide_eq_true_eq] at hc2
    have hil : i < us.length := by omega
    obtain ⟨a, hget⟩ : ∃ a, us[i]? = some a := ⟨_, List.getElem?_eq_getElem hil⟩
    have hmem := List.mem_of_getElem? hget
    have hnext := (mks_next hget k0).2
    have hmid := lfs_mid hget
    have hsnd := mks_snd (us.take i) k0
    have hge := hel i a hget
    obtain ⟨a, rfl, _⟩ := inv_int (hz a hmem)
    have hlfa : ((.i .i64 a) : U).lf = 0 + 1 := by simp [U.lf, U.lfs]
    rw [hlfa] at hmid
    have hkp : 0 < (U.mks (us.take i) k0).2 := by omega
    have hkb : (U.mks (us.take i) k0).2 + (0 + 1 : Nat) ≤ 4611686018427387904 := by omega
    clear hsnd hlfa hmid
    generalize (U.mks (us.take i) k0).2 = kk at hnext hkp hkb hge ⊢
    have hge : ms[i]? = some (.i .i64 (kk)) := hge
    refine V_seq (V_block ?_)
    repeat (first | refine VO_d ?_ | refine VQ_d ?_ | (first | refine VO_q (Q_index rfl rfl TE.h TI.h (by omega) hge) rfl ?_ | refine VQ_q (Q_index rfl rfl TE.h TI.h (by omega) hge) rfl ?_ | (refine VO_bare rfl rfl rfl rfl ?_; refine VO_q (Q_index rfl rfl TE.h TI.h (by omega) hge) rfl ?_) | refine VQ_run rfl rfl rfl rfl (Q_index rfl rfl TE.h TI.h (by omega) hge) rfl ?_) | (first | refine VO_nil ?_ | refine VQ_nil ?_) | (first | refine V_seq_region ?_ | refine V_seq (V_seq_region ?_) | refine V_seq_draw tmix (by kernel_rfl) ?_ | refine V_seq (V_seq_draw tmix (by kernel_rfl) ?_) | refine V_region ?_ | refine V_draw tmix (by kernel_rfl) ?_))
    (first | refine V_cond rfl (fun hc3 => ?_) (fun hc3 => ?_) | refine V_seq (V_cond rfl (fun hc3 => ?_) (fun hc3 => ?_)))
    · simp at hc3
    refine V_skip ?_
    clear hc3
    repeat (first | refine VO_d ?_ | refine VQ_d ?_  | (first | refine VO_nil ?_ | refine VQ_nil ?_) | (first | refine V_seq_region ?_ | refine V_seq (V_seq_region ?_) | refine V_seq_draw tmix (by kernel_rfl) ?_ | refine V_seq (V_seq_draw tmix (by kernel_rfl) ?_) | refine V_region ?_ | refine V_draw tmix (by kernel_rfl) ?_))
    refine ⟨i + 1, by omega, by omega, ⟨rfl, ⟨⟨rfl, rfl⟩, ⟨?_, rfl⟩, ⟨rfl, rfl⟩, trivial⟩, ⟨[], rfl⟩, rfl⟩⟩
    rw [hnext]
    rfl
  · refine V_exit ?_
    simp only [decide_eq_false_iff_not] at hc2
    have hkl : i = us.length := by omega
    subst hkl
    show V _ _ _ _ _
    repeat (first | refine VO_d ?_ | refine VQ_d ?_  | (first | refine VO_nil ?_ | refine VQ_nil ?_) | (first | refine V_seq_region ?_ | refine V_seq (V_seq_region ?_) | refine V_seq_draw tmix (by kernel_rfl) ?_ | refine V_seq (V_seq_draw tmix (by kernel_rfl) ?_) | refine V_region ?_ | refine V_draw tmix (by kernel_rfl) ?_))
    refine V_ret ?_
    refine ⟨trivial, ⟨_, rfl, ?_⟩, trivial⟩
    rw [List.take_length]
    exact rfl

theorem heldIntS_all {us : List U} (h : us.length ≤ big ∧ ∀ x ∈ us, wt .int x) : PHe 87 (.sl 1 us) := heldIntS_step h.1 h.2
set_option maxHeartbeats 8000000 in
theorem heldDictionaryS_step {us : List U} (hl : us.length ≤ big) (hz : ∀ a ∈ us, wt (.st 26) a) (ih0 : ∀ (a_0 : Int) (a_1_0 : Int) (a_1_1 : Int) (a_2 : List U) (a_3 : List U), .st [.i .i64 a_0, .st [.i .i64 a_1_0, .i .i64 a_1_1], .sl 1 a_2, .sl 5 a_3] ∈ us → PHe 87 (.sl 1 a_2)) (ih1 : ∀ (a_0 : Int) (a_1_0 : Int) (a_1_1 : Int) (a_2 : List U) (a_3 : List U), .st [.i .i64 a_0, .st [.i .i64 a_1_0, .i .i64 a_1_1], .sl 1 a_2, .sl 5 a_3] ∈ us → PHe 88 (.sl 5 a_3)) : PHe 88 (.sl 5 us) := by
  intro k0 hk0 hk1
  have hlf : (U.sl 5 us).lf = U.lfs us := rfl
  rw [hlf] at hk1
  rw [big_eq] at hl
  show SpecP _ _ [.d (.sl 5 (U.mks us k0).1), .d (.i .i64 k0)] [.i .i64 (U.mks us k0).2]
  obtain ⟨ms, hms⟩ : ∃ ms, (U.mks us k0).1 = ms := ⟨_, rfl⟩
  have hml : ms.length = us.length := by rw [← hms, mks_len]
  have hel : ∀ (i : Nat) (a : U), us[i]? = some a → ms[i]? = some (a.mk (U.mks (us.take i) k0).2).1 := fun i a h => by rw [← hms]; exact mks_get h k0
  rw [hms]
  refine SpecP_intro Try.func88 rfl (by kernel_rfl) rfl fun A => ?_
  repeat (first | refine VO_d ?_ | refine VQ_d ?_  | (first | refine VO_nil ?_ | refine VQ_nil ?_) | (first | refine V_seq_region ?_ | refine V_seq (V_seq_region ?_) | refine V_seq_draw tmix (by kernel_rfl) ?_ | refine V_seq (V_seq_draw tmix (by kernel_rfl) ?_) | refine V_region ?_ | refine V_draw tmix (by kernel_rfl) ?_))
  refine V_block ?_
  refine V_loop (α := Nat)
    (fun i => ⟨[(0, .d (.sl 5 ms)), (1, .d (.i .i64 (U.mks (us.take i) k0).2)), (5, .d (.i .i64 i))], [], Try.f88.ntmps⟩)
    (fun i => i ≤ us.length)
    (fun i => us.length - i) 0 ⟨rfl, ⟨⟨rfl, rfl⟩, ⟨rfl, rfl⟩, ⟨rfl, rfl⟩, trivial⟩, ⟨[], rfl⟩, rfl⟩ (by simp) ?_
  intro i hi
  repeat (first | refine VO_d ?_ | refine VQ_d ?_  | (first | refine VO_nil ?_ | refine VQ_nil ?_) | (first | refine V_seq_region ?_ | refine V_seq (V_seq_region ?_) | refine V_seq_draw tmix (by kernel_rfl) ?_ | refine V_seq (V_seq_draw tmix (by kernel_rfl) ?_) | refine V_region ?_ | refine V_draw tmix (by kernel_rfl) ?_))
  (first | refine V_cond rfl (fun hc2 => ?_) (fun hc2 => ?_) | refine V_seq (V_cond rfl (fun hc2 => ?_) (fun hc2 => ?_)))
  · refine V_skip ?_
    simp only [decide_eq_true_eq] at hc2
    have hil : i < us.length := by omega
    obtain ⟨a, hget⟩ : ∃ a, us[i]? = some a := ⟨_, List.getElem?_eq_getElem hil⟩
    have hmem := List.mem_of_getElem? hget
    have hnext := (mks_next hget k0).2
    have hmid := lfs_mid hget
    have hsnd := mks_snd (us.take i) k0
    have hge := hel i a hget
    have hwa := hz a hmem
    obtain ⟨a_0, a_1, a_2, a_3, rfl, hwa_0, hwa_1, hwa_2, hwa_3⟩ := inv_Dictionary hwa
    obtain ⟨a_1_0, a_1_1, rfl, hwa_1_0, hwa_1_1⟩ := inv_InstanceRef hwa_1
    have hlfa : ((.st [.i .i64 a_0, .st [.i .i64 a_1_0, .i .i64 a_1_1], .sl 1 a_2, .sl 5 a_3]) : U).lf = 0 + 1 + 1 + 1 + U.lfs a_2 + U.lfs a_3 := by simp [U.lf, U.lfs]; omega
    rw [hlfa] at hmid
    have hkp : 0 < (U.mks (us.take i) k0).2 := by omega
    have hkb : (U.mks (us.take i) k0).2 + (0 + 1 + 1 + 1 + U.lfs a_2 + U.lfs a_3 : Nat) ≤ 4611686018427387904 := by omega
    clear hsnd hlfa hmid
    generalize (U.mks (us.take i) k0).2 = kk at hnext hkp hkb hge ⊢
    have hge : ms[i]? = some (.st [.i .i64 (kk), .st [.i .i64 (kk + 1), .i .i64 (kk + 1 + 1)], .sl 1 (U.mks a_2 (kk + 1 + 1 + 1)).1, .sl 5 (U.mks a_3 ((U.mks a_2 (kk + 1 + 1 + 1)).2)).1]) := hge
    refine V_seq (V_block ?_)
    repeat (first | refine VO_d ?_ | refine VQ_d ?_ | (first | refine VO_q (Q_index rfl rfl TE.h TI.h (by omega) hge) rfl ?_ | refine VQ_q (Q_index rfl rfl TE.h TI.h (by omega) hge) rfl ?_ | (refine VO_bare rfl rfl rfl rfl ?_; refine VO_q (Q_index rfl rfl TE.h TI.h (by omega) hge) rfl ?_) | refine VQ_run rfl rfl rfl rfl (Q_index rfl rfl TE.h TI.h (by omega) hge) rfl ?_) | (first | refine VO_nil ?_ | refine VQ_nil ?_) | (first | refine V_seq_region ?_ | refine V_seq (V_seq_region ?_) | refine V_seq_draw tmix (by kernel_rfl) ?_ | refine V_seq (V_seq_draw tmix (by kernel_rfl) ?_) | refine V_region ?_ | refine V_draw tmix (by kernel_rfl) ?_))
    (first | refine V_cond rfl (fun hc3 => ?_) (fun hc3 => ?_) | refine V_seq (V_cond rfl (fun hc3 => ?_) (fun hc3 => ?_)))
    · simp at hc3
    refine V_skip ?_
    clear hc3
    repeat (first | refine VO_d ?_ | refine VQ_d ?_ | (first | refine VO_q (Q_index rfl rfl TE.h TI.h (by omega) hge) rfl ?_ | refine VQ_q (Q_index rfl rfl TE.h TI.h (by omega) hge) rfl ?_ | (refine VO_bare rfl rfl rfl rfl ?_; refine VO_q (Q_index rfl rfl TE.h TI.h (by omega) hge) rfl ?_) | refine VQ_run rfl rfl rfl rfl (Q_index rfl rfl TE.h TI.h (by omega) hge) rfl ?_) | (first | refine VO_nil ?_ | refine VQ_nil ?_) | (first | refine V_seq_region ?_ | refine V_seq (V_seq_region ?_) | refine V_seq_draw tmix (by kernel_rfl) ?_ | refine V_seq (V_seq_draw tmix (by kernel_rfl) ?_) | refine V_region ?_ | refine V_draw tmix (by kernel_rfl) ?_))
    (first | refine V_cond rfl (fun hc3 => ?_) (fun hc3 => ?_) | refine V_seq (V_cond rfl (fun hc3 => ?_) (fun hc3 => ?_)))
    · simp at hc3
    refine V_skip ?_
    clear hc3
    repeat (first | refine VO_d ?_ | refine VQ_d ?_ | (first | refine VO_q (Q_index rfl rfl TE.h TI.h (by omega) hge) rfl ?_ | refine VQ_q (Q_index rfl rfl TE.h TI.h (by omega) hge) rfl ?_ | (refine VO_bare rfl rfl rfl rfl ?_; refine VO_q (Q_index rfl rfl TE.h TI.h (by omega) hge) rfl ?_) | refine VQ_run rfl rfl rfl rfl (Q_index rfl rfl TE.h TI.h (by omega) hge) rfl ?_) | (first | refine VO_nil ?_ | refine VQ_nil ?_) | (first | refine V_seq_region ?_ | refine V_seq (V_seq_region ?_) | refine V_seq_draw tmix (by kernel_rfl) ?_ | refine V_seq (V_seq_draw tmix (by kernel_rfl) ?_) | refine V_region ?_ | refine V_draw tmix (by kernel_rfl) ?_))
    (first | refine V_cond rfl (fun hc3 => ?_) (fun hc3 => ?_) | refine V_seq (V_cond rfl (fun hc3 => ?_) (fun hc3 => ?_)))
    · simp at hc3
    refine V_skip ?_
    clear hc3
    have hm3 := ih0 a_0 a_1_0 a_1_1 a_2 a_3 hmem (kk + 1 + 1 + 1) (by omega) (by simp only [U.lf]; omega)
    have hs3 := mks_snd a_2 (kk + 1 + 1 + 1)
    repeat (first | refine VO_d ?_ | refine VQ_d ?_ | (first | refine VO_q (Q_index rfl rfl TE.h TI.h (by omega) hge) rfl ?_ | refine VQ_q (Q_index rfl rfl TE.h TI.h (by omega) hge) rfl ?_ | (refine VO_bare rfl rfl rfl rfl ?_; refine VO_q (Q_index rfl rfl TE.h TI.h (by omega) hge) rfl ?_) | refine VQ_run rfl rfl rfl rfl (Q_index rfl rfl TE.h TI.h (by omega) hge) rfl ?_) | (first | refine VO_q (Q_call rfl hm3 (by (repeat (first | exact trivial | exact rfl | exact ⟨_, rfl⟩ | refine And.intro ?_ ?_)); first | done | fail)) rfl ?_ | refine VQ_q (Q_call rfl hm3 (by (repeat (first | exact trivial | exact rfl | exact ⟨_, rfl⟩ | refine And.intro ?_ ?_)); first | done | fail)) rfl ?_ | (refine VO_bare rfl rfl rfl rfl ?_; refine VO_q (Q_call rfl hm3 (by (repeat (first | exact trivial | exact rfl | exact ⟨_, rfl⟩ | refine And.intro ?_ ?_)); first | done | fail)) rfl ?_) | refine VQ_run rfl rfl rfl rfl (Q_call rfl hm3 (by (repeat (first | exact trivial | exact rfl | exact ⟨_, rfl⟩ | refine And.intro ?_ ?_)); first | done | fail)) rfl ?_) | (first | refine VO_nil ?_ | refine VQ_nil ?_) | (first | refine V_seq_region ?_ | refine V_seq (V_seq_region ?_) | refine V_seq_draw tmix (by kernel_rfl) ?_ | refine V_seq (V_seq_draw tmix (by kernel_rfl) ?_) | refine V_region ?_ | refine V_draw tmix (by kernel_rfl) ?_))
    (first | refine V_cond rfl (fun hc3 => ?_) (fun hc3 => ?_) | refine V_seq (V_cond rfl (fun hc3 => ?_) (fun hc3 => ?_)))
    · exfalso; simp only [decide_eq_true_eq] at hc3; change (U.mks a_2 (kk + 1 + 1 + 1)).2 < 0 at hc3; omega
    refine V_skip ?_
    clear hc3
    have hm4 := ih1 a_0 a_1_0 a_1_1 a_2 a_3 hmem ((U.mks a_2 (kk + 1 + 1 + 1)).2) (by omega) (by simp only [U.lf]; omega)
    have hs4 := mks_snd a_3 ((U.mks a_2 (kk + 1 + 1 + 1)).2)
    repeat (first | refine VO_d ?_ | refine VQ_d ?_ | (first | refine VO_q (Q_index rfl rfl TE.h TI.h (by omega) hge) rfl ?_ | refine VQ_q (Q_index rfl rfl TE.h TI.h (by omega) hge) rfl ?_ | (refine VO_bare rfl rfl rfl rfl ?_; refine VO_q (Q_index rfl rfl TE.h TI.h (by omega) hge) rfl ?_) | refine VQ_run rfl rfl rfl rfl (Q_index rfl rfl TE.h TI.h (by omega) hge) rfl ?_) | (first | refine VO_q (Q_call rfl hm4 (by (repeat (first | exact trivial | exact rfl | exact ⟨_, rfl⟩ | refine And.intro ?_ ?_)); first | done | fail)) rfl ?_ | refine VQ_q (Q_call rfl hm4 (by (repeat (first | exact trivial | exact rfl | exact ⟨_, rfl⟩ | refine And.intro ?_ ?_)); first | done | fail)) rfl ?_ | (refine VO_bare rfl rfl rfl rfl ?_; refine VO_q (Q_call rfl hm4 (by (repeat (first | exact trivial | exact rfl | exact ⟨_, rfl⟩ | refine And.intro ?_ ?_)); first | done | fail)) rfl ?_) | refine VQ_run rfl rfl rfl rfl (Q_call rfl hm4 (by (repeat (first | exact trivial | exact rfl | exact ⟨_, rfl⟩ | refine And.intro ?_ ?_)); first | done | fail)) rfl ?_) | (first | refine VO_nil ?_ | refine VQ_nil ?_) | (first | refine V_seq_region ?_ | refine V_seq (V_seq_region ?_) | refine V_seq_draw tmix (by kernel_rfl) ?_ | refine V_seq (V_seq_draw tmix (by kernel_rfl) ?_) | refine V_region ?_ | refine V_draw tmix (by kernel_rfl) ?_))
    (first | refine V_cond rfl (fun hc3 => ?_) (fun hc3 => ?_) | refine V_seq (V_cond rfl (fun hc3 => ?_) (fun hc3 => ?_)))
    · exfalso; simp only [decide_eq_true_eq] at hc3; change (U.mks a_3 ((U.mks a_2 (kk + 1 + 1 + 1)).2)).2 < 0 at hc3; omega
    refine V_skip ?_
    clear hc3
    repeat (first | refine VO_d ?_ | refine VQ_d ?_  | (first | refine VO_nil ?_ | refine VQ_nil ?_) | (first | refine V_seq_region ?_ | refine V_seq (V_seq_region ?_) | refine V_seq_draw tmix (by kernel_rfl) ?_ | refine V_seq (V_seq_draw tmix (by kernel_rfl) ?_) | refine V_region ?_ | refine V_draw tmix (by kernel_rfl) ?_))
    refine ⟨i + 1, by omega, by omega, ⟨rfl, ⟨⟨rfl, rfl⟩, ⟨?_, rfl⟩, ⟨rfl, rfl⟩, trivial⟩, ⟨[], rfl⟩, rfl⟩⟩
    rw [hnext]
    rfl
  · refine V_exit ?_
    simp only [decide_eq_false_iff_not] at hc2
    have hkl : i = us.length := by omega
    subst hkl
    show V _ _ _ _ _
    repeat (first | refine VO_d ?_ | refine VQ_d ?_  | (first | refine VO_nil ?_ | refine VQ_nil ?_) | (first | refine V_seq_region ?_ | refine V_seq (V_seq_region ?_) | refine V_seq_draw tmix (by kernel_rfl) ?_ | refine V_seq (V_seq_draw tmix (by kernel_rfl) ?_) | refine V_region ?_ | refine V_draw tmix (by kernel_rfl) ?_))
    refine V_ret ?_
    refine ⟨trivial, ⟨_, rfl, ?_⟩, trivial⟩
    rw [List.take_length]
    exact rfl

set_option maxHeartbeats 8000000 in
theorem heldDictionary_step {f0 : Int} {f1 : U} {f2 : List U} {f3 : List U} (g1 : wt (.st 16) f1) (h2 : PHe 87 (.sl 1 f2)) (h3 : PHe 88 (.sl 5 f3)) : PHe 50 (.st [.i .i64 f0, f1, .sl 1 f2, .sl 5 f3]) := by
  intro k0 hk0 hk1
  obtain ⟨f1_0, f1_1, rfl, g1_0, g1_1⟩ := inv_InstanceRef g1
  have hlf : ((.st [.i .i64 f0, .st [.i .i64 f1_0, .i .i64 f1_1], .sl 1 f2, .sl 5 f3]) : U).lf = 0 + 1 + 1 + 1 + U.lfs f2 + U.lfs f3 := by simp [U.lf, U.lfs]; omega
  rw [hlf] at hk1
  show SpecP _ _ [.d (.st [.i .i64 f0, .st [.i .i64 f1_0, .i .i64 f1_1], .sl 1 (U.mks f2 (k0)).1, .sl 5 (U.mks f3 ((U.mks f2 (k0)).2)).1]), .d (.i .i64 k0)] [.i .i64 ((U.mks f3 ((U.mks f2 (k0)).2)).2)]
  refine SpecP_intro Try.func50 rfl (by kernel_rfl) rfl fun A => ?_
  have hm2 := h2 (k0) (by omega) (by simp only [U.lf, U.lfs]; omega)
  have hs_f2 := mks_snd f2 (k0)
  repeat (first | refine VO_d ?_ | refine VQ_d ?_ | (first | refine VO_q (Q_call rfl hm2 (by (repeat (first | exact trivial | exact rfl | exact ⟨_, rfl⟩ | refine And.intro ?_ ?_)); first | done | fail)) rfl ?_ | refine VQ_q (Q_call rfl hm2 (by (repeat (first | exact trivial | exact rfl | exact ⟨_, rfl⟩ | refine And.intro ?_ ?_)); first | done | fail)) rfl ?_ | (refine VO_bare rfl rfl rfl rfl ?_; refine VO_q (Q_call rfl hm2 (by (repeat (first | exact trivial | exact rfl | exact ⟨_, rfl⟩ | refine And.intro ?_ ?_)); first | done | fail)) rfl ?_) | refine VQ_run rfl rfl rfl rfl (Q_call rfl hm2 (by (repeat (first | exact trivial | exact rfl | exact ⟨_, rfl⟩ | refine And.intro ?_ ?_)); first | done | fail)) rfl ?_) | (first | refine VO_nil ?_ | refine VQ_nil ?_) | (first | refine V_seq_region ?_ | refine V_seq (V_seq_region ?_) | refine V_seq_draw tmix (by kernel_rfl) ?_ | refine V_seq (V_seq_draw tmix (by kernel_rfl) ?_) | refine V_region ?_ | refine V_draw tmix (by kernel_rfl) ?_))
  (first | refine V_cond rfl (fun hc3 => ?_) (fun hc3 => ?_) | refine V_seq (V_cond rfl (fun hc3 => ?_) (fun hc3 => ?_)))
  · exfalso; simp only [decide_eq_true_eq] at hc3; change (U.mks f2 (k0)).2 < 0 at hc3; omega
  refine V_skip ?_
  clear hc3
  have hm3 := h3 ((U.mks f2 (k0)).2) (by omega) (by simp only [U.lf, U.lfs]; omega)
  have hs_f3 := mks_snd f3 ((U.mks f2 (k0)).2)
  repeat (first | refine VO_d ?_ | refine VQ_d ?_ | (first | refine VO_q (Q_call rfl hm3 (by (repeat (first | exact trivial | exact rfl | exact ⟨_, rfl⟩ | refine And.intro ?_ ?_)); first | done | fail)) rfl ?_ | refine VQ_q (Q_call rfl hm3 (by (repeat (first | exact trivial | exact rfl | exact ⟨_, rfl⟩ | refine And.intro ?_ ?_)); first | done | fail)) rfl ?_ | (refine VO_bare rfl rfl rfl rfl ?_; refine VO_q (Q_call rfl hm3 (by (repeat (first | exact trivial | exact rfl | exact ⟨_, rfl⟩ | refine And.intro ?_ ?_)); first | done | fail)) rfl ?_) | refine VQ_run rfl rfl rfl rfl (Q_call rfl hm3 (by (repeat (first | exact trivial | exact rfl | exact ⟨_, rfl⟩ | refine And.intro ?_ ?_)); first | done | fail)) rfl ?_) | (first | refine VO_nil ?_ | refine VQ_nil ?_) | (first | refine V_seq_region ?_ | refine V_seq (V_seq_region ?_) | refine V_seq_draw tmix (by kernel_rfl) ?_ | refine V_seq (V_seq_draw tmix (by kernel_rfl) ?_) | refine V_region ?_ | refine V_draw tmix (by kernel_rfl) ?_))
  (first | refine V_cond rfl (fun hc3 => ?_) (fun hc3 => ?_) | refine V_seq (V_cond rfl (fun hc3 => ?_) (fun hc3 => ?_)))
  · exfalso; simp only [decide_eq_true_eq] at hc3; change (U.mks f3 ((U.mks f2 (k0)).2)).2 < 0 at hc3; omega
  refine V_skip ?_
  clear hc3
  repeat (first | refine VO_d ?_ | refine VQ_d ?_  | (first | refine VO_nil ?_ | refine VQ_nil ?_) | (first | refine V_seq_region ?_ | refine V_seq (V_seq_region ?_) | refine V_seq_draw tmix (by kernel_rfl) ?_ | refine V_seq (V_seq_draw tmix (by kernel_rfl) ?_) | refine V_region ?_ | refine V_draw tmix (by kernel_rfl) ?_))
  refine V_ret ?_
  exact ⟨trivial, ⟨_, rfl, rfl⟩, trivial⟩

theorem heldDictionary_grp (u : U) : (∀ us, u = .sl 5 us → us.length ≤ big → (∀ x ∈ us, wt (.st 26) x) → PHe 88 u) := by
  refine U.ind (M := fun u => (∀ us, u = .sl 5 us → us.length ≤ big → (∀ x ∈ us, wt (.st 26) x) → PHe 88 u)) (fun u ih => ?_) u
  refine ?_
  · rintro us rfl hl hz
    exact heldDictionaryS_step hl hz (fun a_0 a_1_0 a_1_1 a_2 a_3 ha => by obtain ⟨_, _, _, _, hx_a, qa_0, qa_1, qa_2, qa_3⟩ := inv_Dictionary (hz _ ha); cases hx_a; obtain ⟨_, _, hx_a_1, qa_1_0, qa_1_1⟩ := inv_InstanceRef qa_1; cases hx_a_1; exact heldIntS_all qa_2) (fun a_0 a_1_0 a_1_1 a_2 a_3 ha => by obtain ⟨_, _, _, _, hx_a, qa_0, qa_1, qa_2, qa_3⟩ := inv_Dictionary (hz _ ha); cases hx_a; obtain ⟨_, _, hx_a_1, qa_1_0, qa_1_1⟩ := inv_InstanceRef qa_1; cases hx_a_1; exact (ih (.sl 5 a_3) (by have := nn_of_mem ha; simp only [U.nn, U.nns] at this ⊢; omega)) a_3 rfl qa_3.1 qa_3.2)
theorem heldDictionaryS_all {us : List U} (h : us.length ≤ big ∧ ∀ x ∈ us, wt (.st 26) x) : PHe 88 (.sl 5 us) := (heldDictionary_grp (.sl 5 us)) us rfl h.1 h.2
theorem heldDictionary_all {u : U} (h : wt (.st 26) u) : PHe 50 u := by
  obtain ⟨f0, f1, f2, f3, rfl, p0, p1, p2, p3⟩ := inv_Dictionary h
  exact heldDictionary_step p1 (heldIntS_all p2) (heldDictionaryS_all p3)

set_option maxHeartbeats 8000000 in
theorem heldValueS_step {us : List U} (hl : us.length ≤ big) (hz : ∀ a ∈ us, wt (.st 27) a) (ih0 : ∀ (a_0 : Int) (a_1 : Int) (a_2 : List UInt8) (a_3_0 : Int) (a_3_1_0 : Int) (a_3_1_1 : Int) (a_3_2 : List U) (a_3_3 : List U) (a_4 : List U), .st [.i .i64 a_0, .i .i64 a_1, .s a_2, .st [.i .i64 a_3_0, .st [.i .i64 a_3_1_0, .i .i64 a_3_1_1], .sl 1 a_3_2, .sl 5 a_3_3], .sl 9 a_4] ∈ us → PHe 87 (.sl 1 a_3_2)) (ih1 : ∀ (a_0 : Int) (a_1 : Int) (a_2 : List UInt8) (a_3_0 : Int) (a_3_1_0 : Int) (a_3_1_1 : Int) (a_3_2 : List U) (a_3_3 : List U) (a_4 : List U), .st [.i .i64 a_0, .i .i64 a_1, .s a_2, .st [.i .i64 a_3_0, .st [.i .i64 a_3_1_0, .i .i64 a_3_1_1], .sl 1 a_3_2, .sl 5 a_3_3], .sl 9 a_4] ∈ us → PHe 88 (.sl 5 a_3_3)) (ih2 : ∀ (a_0 : Int) (a_1 : Int) (a_2 : List UInt8) (a_3_0 : Int) (a_3_1_0 : Int) (a_3_1_1 : Int) (a_3_2 : List U) (a_3_3 : List U) (a_4 : List U), .st [.i .i64 a_0, .i .i64 a_1, .s a_2, .st [.i .i64 a_3_0, .st [.i .i64 a_3_1_0, .i .i64 a_3_1_1], .sl 1 a_3_2, .sl 5 a_3_3], .sl 9 a_4] ∈ us → PHe 51 (.sl 9 a_4)) : PHe 51 (.sl 9 us) := by
  intro k0 hk0 hk1
  have hlf : (U.sl 9 us).lf = U.lfs us := rfl
  rw [hlf] at hk1
  rw [big_eq] at hl
  show SpecP _ _ [.d (.sl 9 (U.mks us k0).1), .d (.i .i64 k0)] [.i .i64 (U.mks us k0).2]
  obtain ⟨ms, hms⟩ : ∃ ms, (U.mks us k0).1 = ms := ⟨_, rfl⟩
  have hml : ms.length = us.length := by rw [← hms, mks_len]
  have hel : ∀ (i : Nat) (a : U), us[i]? = some a → ms[i]? = some (a.mk (U.mks (us.take i) k0).2).1 := fun i a h => by rw [← hms]; exact mks_get h k0
  rw [hms]
  refine SpecP_intro Try.func51 rfl (by kernel_rfl) rfl fun A => ?_
  repeat (first | refine VO_d ?_ | refine VQ_d ?_  | (first | refine VO_nil ?_ | refine VQ_nil ?_) | (first | refine V_seq_region ?_ | refine V_seq (V_seq_region ?_) | refine V_seq_draw tmix (by kernel_rfl) ?_ | refine V_seq (V_seq_draw tmix (by kernel_rfl) ?_) | refine V_region ?_ | refine V_draw tmix (by kernel_rfl) ?_))
  refine V_block ?_
  refine V_loop (α := Nat)
    (fun i => ⟨[(0, .d (.sl 9 ms)), (1, .d (.i .i64 (U.mks (us.take i) k0).2)), (5, .d (.i .i64 i))], [], Try.f51.ntmps⟩)
    (fun i => i ≤ us.length)
    (fun i => us.length - i) 0 ⟨rfl, ⟨⟨rfl, rfl⟩, ⟨rfl, rfl⟩, ⟨rfl, rfl⟩, trivial⟩, ⟨[], rfl⟩, rfl⟩ (by simp) ?_
  intro i hi
  repeat (first | refine VO_d ?_ | refine VQ_d ?_  | (first | refine VO_nil ?_ | refine VQ_nil ?_) | (first | refine V_seq_region ?_ | refine V_seq (V_seq_region ?_) | refine V_seq_draw tmix (by kernel_rfl) ?_ | refine V_seq (V_seq_draw tmix (by kernel_rfl) ?_) | refine V_region ?_ | refine V_draw tmix (by kernel_rfl) ?_))
  (first | refine V_cond rfl (fun hc2 => ?_) (fun hc2 => ?_) | refine V_seq (V_cond rfl (fun hc2 => ?_) (fun hc2 => ?_)))
  · refine V_skip ?_
    simp only [decide_eq_true_eq] at hc2
    have hil : i < us.length := by omega
    obtain ⟨a, hget⟩ : ∃ a, us[i]? = some a := ⟨_, List.getElem?_eq_getElem hil⟩
    have hmem := List.mem_of_getElem? hget
    have hnext := (mks_next hget k0).2
    have hmid := lfs_mid hget
    have hsnd := mks_snd (us.take i) k0
    have hge := hel i a hget
    have hwa := hz a hmem
    obtain ⟨a_0, a_1, a_2, a_3, a_4, rfl, hwa_0, hwa_1, hwa_2, hwa_3, hwa_4⟩ := inv_Value hwa
    obtain ⟨a_3_0, a_3_1, a_3_2, a_3_3, rfl, hwa_3_0, hwa_3_1, hwa_3_2, hwa_3_3⟩ := inv_Dictionary hwa_3
    obtain ⟨a_3_1_0, a_3_1_1, rfl, hwa_3_1_0, hwa_3_1_1⟩ := inv_InstanceRef hwa_3_1
    have hlfa : ((.st [.i .i64 a_0, .i .i64 a_1, .s a_2, .st [.i .i64 a_3_0, .st [.i .i64 a_3_1_0, .i .i64 a_3_1_1], .sl 1 a_3_2, .sl 5 a_3_3], .sl 9 a_4]) : U).lf = 0 + 1 + 1 + 1 + 1 + 1 + 1 + U.lfs a_3_2 + U.lfs a_3_3 + U.lfs a_4 := by simp [U.lf, U.lfs]; omega
    rw [hlfa] at hmid
    have hkp : 0 < (U.mks (us.take i) k0).2 := by omega
    have hkb : (U.mks (us.take i) k0).2 + (0 + 1 + 1 + 1 + 1 + 1 + 1 + U.lfs a_3_2 + U.lfs a_3_3 + U.lfs a_4 : Nat) ≤ 4611686018427387904 := by omega
    clear hsnd hlfa hmid
    generalize (U.mks (us.take i) k0).2 = kk at hnext hkp hkb hge ⊢
    have hge : ms[i]? = some (.st [.i .i64 (kk), .i .i64 (kk + 1), .s (txt (kk + 1 + 1)), .st [.i .i64 (kk + 1 + 1 + 1), .st [.i .i64 (kk + 1 + 1 + 1 + 1), .i .i64 (kk + 1 + 1 + 1 + 1 + 1)], .sl 1 (U.mks a_3_2 (kk + 1 + 1 + 1 + 1 + 1 + 1)).1, .sl 5 (U.mks a_3_3 ((U.mks a_3_2 (kk + 1 + 1 + 1 + 1 + 1 + 1)).2)).1], .sl 9 (U.mks a_4 ((U.mks a_3_3 ((U.mks a_3_2 (kk + 1 + 1 + 1 + 1 + 1 + 1)).2)).2)).1]) := hge
    refine V_seq (V_block ?_)
    repeat (first | refine VO_d ?_ | refine VQ_d ?_ | (first | refine VO_q (Q_index rfl rfl TE.h TI.h (by omega) hge) rfl ?_ | refine VQ_q (Q_index rfl rfl TE.h TI.h (by omega) hge) rfl ?_ | (refine VO_bare rfl rfl rfl rfl ?_; refine VO_q (Q_index rfl rfl TE.h TI.h (by omega) hge) rfl ?_) | refine VQ_run rfl rfl rfl rfl (Q_index rfl rfl TE.h TI.h (by omega) hge) rfl ?_) | (first | refine VO_nil ?_ | refine VQ_nil ?_) | (first | refine V_seq_region ?_ | refine V_seq (V_seq_region ?_) | refine V_seq_draw tmix (by kernel_rfl) ?_ | refine V_seq (V_seq_draw tmix (by kernel_rfl) ?_) | refine V_region ?_ | refine V_draw tmix (by kernel_rfl) ?_))
    (first | refine V_cond rfl (fun hc3 => ?_) (fun hc3 => ?_) | refine V_seq (V_cond rfl (fun hc3 => ?_) (fun hc3 => ?_)))
    · simp at hc3
    refine V_skip ?_
    clear hc3
    repeat (first | refine VO_d ?_ | refine VQ_d ?_ | (first | refine VO_q (Q_index rfl rfl TE.h TI.h (by omega) hge) rfl ?_ | refine VQ_q (Q_index rfl rfl TE.h TI.h (by omega) hge) rfl ?_ | (refine VO_bare rfl rfl rfl rfl ?_; refine VO_q (Q_index rfl rfl TE.h TI.h (by omega) hge) rfl ?_) | refine VQ_run rfl rfl rfl rfl (Q_index rfl rfl TE.h TI.h (by omega) hge) rfl ?_) | (first | refine VO_nil ?_ | refine VQ_nil ?_) | (first | refine V_seq_region ?_ | refine V_seq (V_seq_region ?_) | refine V_seq_draw tmix (by kernel_rfl) ?_ | refine V_seq (V_seq_draw tmix (by kernel_rfl) ?_) | refine V_region ?_ | refine V_draw tmix (by kernel_rfl) ?_))
    (first | refine V_cond rfl (fun hc3 => ?_) (fun hc3 => ?_) | refine V_seq (V_cond rfl (fun hc3 => ?_) (fun hc3 => ?_)))
    · simp at hc3
    refine V_skip ?_
    clear hc3
    have ht2 := markText_all (kk + 1 + 1) (by omega) (by omega)
    repeat (first | refine VO_d ?_ | refine VQ_d ?_ | (first | refine VO_q (Q_index rfl rfl TE.h TI.h (by omega) hge) rfl ?_ | refine VQ_q (Q_index rfl rfl TE.h TI.h (by omega) hge) rfl ?_ | (refine VO_bare rfl rfl rfl rfl ?_; refine VO_q (Q_index rfl rfl TE.h TI.h (by omega) hge) rfl ?_) | refine VQ_run rfl rfl rfl rfl (Q_index rfl rfl TE.h TI.h (by omega) hge) rfl ?_) | (first | refine VO_q (Q_call rfl ht2 (by (repeat (first | exact trivial | exact rfl | exact ⟨_, rfl⟩ | refine And.intro ?_ ?_)); first | done | fail)) rfl ?_ | refine VQ_q (Q_call rfl ht2 (by (repeat (first | exact trivial | exact rfl | exact ⟨_, rfl⟩ | refine And.intro ?_ ?_)); first | done | fail)) rfl ?_ | (refine VO_bare rfl rfl rfl rfl ?_; refine VO_q (Q_call rfl ht2 (by (repeat (first | exact trivial | exact rfl | exact ⟨_, rfl⟩ | refine And.intro ?_ ?_)); first | done | fail)) rfl ?_) | refine VQ_run rfl rfl rfl rfl (Q_call rfl ht2 (by (repeat (first | exact trivial | exact rfl | exact ⟨_, rfl⟩ | refine And.intro ?_ ?_)); first | done | fail)) rfl ?_) | (first | refine VO_nil ?_ | refine VQ_nil ?_) | (first | refine V_seq_region ?_ | refine V_seq (V_seq_region ?_) | refine V_seq_draw tmix (by kernel_rfl) ?_ | refine V_seq (V_seq_draw tmix (by kernel_rfl) ?_) | refine V_region ?_ | refine V_draw tmix (by kernel_rfl) ?_))
    (first | refine V_cond rfl (fun hc3 => ?_) (fun hc3 => ?_) | refine V_seq (V_cond rfl (fun hc3 => ?_) (fun hc3 => ?_)))
    · simp at hc3
    refine V_skip ?_
    clear hc3
    repeat (first | refine VO_d ?_ | refine VQ_d ?_ | (first | refine VO_q (Q_index rfl rfl TE.h TI.h (by omega) hge) rfl ?_ | refine VQ_q (Q_index rfl rfl TE.h TI.h (by omega) hge) rfl ?_ | (refine VO_bare rfl rfl rfl rfl ?_; refine VO_q (Q_index rfl rfl TE.h TI.h (by omega) hge) rfl ?_) | refine VQ_run rfl rfl rfl rfl (Q_index rfl rfl TE.h TI.h (by omega) hge) rfl ?_) | (first | refine VO_nil ?_ | refine VQ_nil ?_) | (first | refine V_seq_region ?_ | refine V_seq (V_seq_region ?_) | refine V_seq_draw tmix (by kernel_rfl) ?_ | refine V_seq (V_seq_draw tmix (by kernel_rfl) ?_) | refine V_region ?_ | refine V_draw tmix (by kernel_rfl) ?_))
    (first | refine V_cond rfl (fun hc3 => ?_) (fun hc3 => ?_) | refine V_seq (V_cond rfl (fun hc3 => ?_) (fun hc3 => ?_)))
    · simp at hc3
    refine V_skip ?_
    clear hc3
    repeat (first | refine VO_d ?_ | refine VQ_d ?_ | (first | refine VO_q (Q_index rfl rfl TE.h TI.h (by omega) hge) rfl ?_ | refine VQ_q (Q_index rfl rfl TE.h TI.h (by omega) hge) rfl ?_ | (refine VO_bare rfl rfl rfl rfl ?_; refine VO_q (Q_index rfl rfl TE.h TI.h (by omega) hge) rfl ?_) | refine VQ_run rfl rfl rfl rfl (Q_index rfl rfl TE.h TI.h (by omega) hge) rfl ?_) | (first | refine VO_nil ?_ | refine VQ_nil ?_) | (first | refine V_seq_region ?_ | refine V_seq (V_seq_region ?_) | refine V_seq_draw tmix (by kernel_rfl) ?_ | refine V_seq (V_seq_draw tmix (by kernel_rfl) ?_) | refine V_region ?_ | refine V_draw tmix (by kernel_rfl) ?_))
    (first | refine V_cond rfl (fun hc3 => ?_) (fun hc3 => ?_) | refine V_seq (V_cond rfl (fun hc3 => ?_) (fun hc3 => ?_)))
    · simp at hc3
    refine V_skip ?_
    clear hc3
    repeat (first | refine VO_d ?_ | refine VQ_d ?_ | (first | refine VO_q (Q_index rfl rfl TE.h TI.h (by omega) hge) rfl ?_ | refine VQ_q (Q_index rfl rfl TE.h TI.h (by omega) hge) rfl ?_ | (refine VO_bare rfl rfl rfl rfl ?_; refine VO_q (Q_index rfl rfl TE.h TI.h (by omega) hge) rfl ?_) | refine VQ_run rfl rfl rfl rfl (Q_index rfl rfl TE.h TI.h (by omega) hge) rfl ?_) | (first | refine VO_nil ?_ | refine VQ_nil ?_) | (first | refine V_seq_region ?_ | refine V_seq (V_seq_region ?_) | refine V_seq_draw tmix (by kernel_rfl) ?_ | refine V_seq (V_seq_draw tmix (by kernel_rfl) ?_) | refine V_region ?_ | refine V_draw tmix (by kernel_rfl) ?_))
    (first | refine V_cond rfl (fun hc3 => ?_) (fun hc3 => ?_) | refine V_seq (V_cond rfl (fun hc3 => ?_) (fun hc3 => ?_)))
    · simp at hc3
    refine V_skip ?_
    clear hc3
    have hm6 := ih0 a_0 a_1 a_2 a_3_0 a_3_1_0 a_3_1_1 a_3_2 a_3_3 a_4 hmem (kk + 1 + 1 + 1 + 1 + 1 + 1) (by omega) (by simp only [U.lf]; omega)
    have hs6 := mks_snd a_3_2 (kk + 1 + 1 + 1 + 1 + 1 + 1)
    repeat (first | refine VO_d ?_ | refine VQ_d ?_ | (first | refine VO_q (Q_index rfl rfl TE.h TI.h (by omega) hge) rfl ?_ | refine VQ_q (Q_index rfl rfl TE.h TI.h (by omega) hge) rfl ?_ | (refine VO_bare rfl rfl rfl rfl ?_; refine VO_q (Q_index rfl rfl TE.h TI.h (by omega) hge) rfl ?_) | refine VQ_run rfl rfl rfl rfl (Q_index rfl rfl TE.h TI.h (by omega) hge) rfl ?_) | (first | refine VO_q (Q_call rfl hm6 (by (repeat (first | exact trivial | exact rfl | exact ⟨_, rfl⟩ | refine And.intro ?_ ?_)); first | done | fail)) rfl ?_ | refine VQ_q (Q_call rfl hm6 (by (repeat (first | exact trivial | exact rfl | exact ⟨_, rfl⟩ | refine And.intro ?_ ?_)); first | done | fail)) rfl ?_ | (refine VO_bare rfl rfl rfl rfl ?_; refine VO_q (Q_call rfl hm6 (by (repeat (first | exact trivial | exact rfl | exact ⟨_, rfl⟩ | refine And.intro ?_ ?_)); first | done | fail)) rfl ?_) | refine VQ_run rfl rfl rfl rfl (Q_call rfl hm6 (by (repeat (first | exact trivial | exact rfl | exact ⟨_, rfl⟩ | refine And.intro ?_ ?_)); first | done | fail)) rfl ?_) | (first | refine VO_nil ?_ | refine VQ_nil ?_) | (first | refine V_seq_region ?_ | refine V_seq (V_seq_region ?_) | refine V_seq_draw tmix (by kernel_rfl) ?_ | refine V_seq (V_seq_draw tmix (by kernel_rfl) ?_) | refine V_region ?_ | refine V_draw tmix (by kernel_rfl) ?_))
    (first | refine V_cond rfl (fun hc3 => ?_) (fun hc3 => ?_) | refine V_seq (V_cond rfl (fun hc3 => ?_) (fun hc3 => ?_)))
    · exfalso; simp only [decide_eq_true_eq] at hc3; change (U.mks a_3_2 (kk + 1 + 1 + 1 + 1 + 1 + 1)).2 < 0 at hc3; omega
    refine V_skip ?_
    clear hc3
    have hm7 := ih1 a_0 a_1 a_2 a_3_0 a_3_1_0 a_3_1_1 a_3_2 a_3_3 a_4 hmem ((U.mks a_3_2 (kk + 1 + 1 + 1 + 1 + 1 + 1)).2) (by omega) (by simp only [U.lf]; omega)
    have hs7 := mks_snd a_3_3 ((U.mks a_3_2 (kk + 1 + 1 + 1 + 1 + 1 + 1)).2)
    repeat (first | refine VO_d ?_ | refine VQ_d ?_ | (first | refine VO_q (Q_index rfl rfl TE.h TI.h (by omega) hge) rfl ?_ | refine VQ_q (Q_index rfl rfl TE.h TI.h (by omega) hge) rfl ?_ | (refine VO_bare rfl rfl rfl rfl ?_; refine VO_q (Q_index rfl rfl TE.h TI.h (by omega) hge) rfl ?_) | refine VQ_run rfl rfl rfl rfl (Q_index rfl rfl TE.h TI.h (by omega) hge) rfl ?_) | (first | refine VO_q (Q_call rfl hm7 (by (repeat (first | exact trivial | exact rfl | exact ⟨_, rfl⟩ | refine And.intro ?_ ?_)); first | done | fail)) rfl ?_ | refine VQ_q (Q_call rfl hm7 (by (repeat (first | exact trivial | exact rfl | exact ⟨_, rfl⟩ | refine And.intro ?_ ?_)); first | done | fail)) rfl ?_ | (refine VO_bare rfl rfl rfl rfl ?_; refine VO_q (Q_call rfl hm7 (by (repeat (first | exact trivial | exact rfl | exact ⟨_, rfl⟩ | refine And.intro ?_ ?_)); first | done | fail)) rfl ?_) | refine VQ_run rfl rfl rfl rfl (Q_call rfl hm7 (by (repeat (first | exact trivial | exact rfl | exact ⟨_, rfl⟩ | refine And.intro ?_ ?_)); first | done | fail)) rfl ?_) | (first | refine VO_nil ?_ | refine VQ_nil ?_) | (first | refine V_seq_region ?_ | refine V_seq (V_seq_region ?_) | refine V_seq_draw tmix (by kernel_rfl) ?_ | refine V_seq (V_seq_draw tmix (by kernel_rfl) ?_) | refine V_region ?_ | refine V_draw tmix (by kernel_rfl) ?_))
    (first | refine V_cond rfl (fun hc3 => ?_) (fun hc3 => ?_) | refine V_seq (V_cond rfl (fun hc3 => ?_) (fun hc3 => ?_)))
    · exfalso; simp only [decide_eq_true_eq] at hc3; change (U.mks a_3_3 ((U.mks a_3_2 (kk + 1 + 1 + 1 + 1 + 1 + 1)).2)).2 < 0 at hc3; omega
    refine V_skip ?_
    clear hc3
    have hm8 := ih2 a_0 a_1 a_2 a_3_0 a_3_1_0 a_3_1_1 a_3_2 a_3_3 a_4 hmem ((U.mks a_3_3 ((U.mks a_3_2 (kk + 1 + 1 + 1 + 1 + 1 + 1)).2)).2) (by omega) (by simp only [U.lf]; omega)
    have hs8 := mks_snd a_4 ((U.mks a_3_3 ((U.mks a_3_2 (kk + 1 + 1 + 1 + 1 + 1 + 1)).2)).2)
    repeat (first | refine VO_d ?_ | refine VQ_d ?_ | (first | refine VO_q (Q_index rfl rfl TE.h TI.h (by omega) hge) rfl ?_ | refine VQ_q (Q_index rfl rfl TE.h TI.h (by omega) hge) rfl ?_ | (refine VO_bare rfl rfl rfl rfl ?_; refine VO_q (Q_index rfl rfl TE.h TI.h (by omega) hge) rfl ?_) | refine VQ_run rfl rfl rfl rfl (Q_index rfl rfl TE.h TI.h (by omega) hge) rfl ?_) | (first | refine VO_q (Q_call rfl hm8 (by (repeat (first | exact trivial | exact rfl | exact ⟨_, rfl⟩ | refine And.intro ?_ ?_)); first | done | fail)) rfl ?_ | refine VQ_q (Q_call rfl hm8 (by (repeat (first | exact trivial | exact rfl | exact ⟨_, rfl⟩ | refine And.intro ?_ ?_)); first | done | fail)) rfl ?_ | (refine VO_bare rfl rfl rfl rfl ?_; refine VO_q (Q_call rfl hm8 (by (repeat (first | exact trivial | exact rfl | exact ⟨_, rfl⟩ | refine And.intro ?_ ?_)); first | done | fail)) rfl ?_) | refine VQ_run rfl rfl rfl rfl (Q_call rfl hm8 (by (repeat (first | exact trivial | exact rfl | exact ⟨_, rfl⟩ | refine And.intro ?_ ?_)); first | done | fail)) rfl ?_) | (first | refine VO_nil ?_ | refine VQ_nil ?_) | (first | refine V_seq_region ?_ | refine V_seq (V_seq_region ?_) | refine V_seq_draw tmix (by kernel_rfl) ?_ | refine V_seq (V_seq_draw tmix (by kernel_rfl) ?_) | refine V_region ?_ | refine V_draw tmix (by kernel_rfl) ?_))
    (first | refine V_cond rfl (fun hc3 => ?_) (fun hc3 => ?_) | refine V_seq (V_cond rfl (fun hc3 => ?_) (fun hc3 => ?_)))
    · exfalso; simp only [decide_eq_true_eq] at hc3; change (U.mks a_4 ((U.mks a_3_3 ((U.mks a_3_2 (kk + 1 + 1 + 1 + 1 + 1 + 1)).2)).2)).2 < 0 at hc3; omega
    refine V_skip ?_
    clear hc3
    repeat (first | refine VO_d ?_ | refine VQ_d ?_  | (first | refine VO_nil ?_ | refine VQ_nil ?_) | (first | refine V_seq_region ?_ | refine V_seq (V_seq_region ?_) | refine V_seq_draw tmix (by kernel_rfl) ?_ | refine V_seq (V_seq_draw tmix (by kernel_rfl) ?_) | refine V_region ?_ | refine V_draw tmix (by kernel_rfl) ?_))
    refine ⟨i + 1, by omega, by omega, ⟨rfl, ⟨⟨rfl, rfl⟩, ⟨?_, rfl⟩, ⟨rfl, rfl⟩, trivial⟩, ⟨[], rfl⟩, rfl⟩⟩
    rw [hnext]
    rfl
  · refine V_exit ?_
    simp only [decide_eq_false_iff_not] at hc2
    have hkl : i = us.length := by omega
    subst hkl
    show V _ _ _ _ _
    repeat (first | refine VO_d ?_ | refine VQ_d ?_  | (first | refine VO_nil ?_ | refine VQ_nil ?_) | (first | refine V_seq_region ?_ | refine V_seq (V_seq_region ?_) | refine V_seq_draw tmix (by kernel_rfl) ?_ | refine V_seq (V_seq_draw tmix (by kernel_rfl) ?_) | refine V_region ?_ | refine V_draw tmix (by kernel_rfl) ?_))
    refine V_ret ?_
    refine ⟨trivial, ⟨_, rfl, ?_⟩, trivial⟩
    rw [List.take_length]
    exact rfl

set_option maxHeartbeats 8000000 in
theorem heldValue_step {f0 : Int} {f1 : Int} {f2 : List UInt8} {f3 : U} {f4 : List U} (g3 : wt (.st 26) f3) (h3 : PHe 50 f3) (h4 : PHe 51 (.sl 9 f4)) : PHe 21 (.st [.i .i64 f0, .i .i64 f1, .s f2, f3, .sl 9 f4]) := by
  intro k0 hk0 hk1
  obtain ⟨f3_0, f3_1, f3_2, f3_3, rfl, g3_0, g3_1, g3_2, g3_3⟩ := inv_Dictionary g3
  obtain ⟨f3_1_0, f3_1_1, rfl, g3_1_0, g3_1_1⟩ := inv_InstanceRef g3_1
  have hlf : ((.st [.i .i64 f0, .i .i64 f1, .s f2, .st [.i .i64 f3_0, .st [.i .i64 f3_1_0, .i .i64 f3_1_1], .sl 1 f3_2, .sl 5 f3_3], .sl 9 f4]) : U).lf = 0 + 1 + 1 + 1 + 1 + 1 + 1 + U.lfs f3_2 + U.lfs f3_3 + U.lfs f4 := by simp [U.lf, U.lfs]; omega
  rw [hlf] at hk1
  show SpecP _ _ [.d (.st [.i .i64 f0, .i .i64 f1, .s f2, .st [.i .i64 f3_0, .st [.i .i64 f3_1_0, .i .i64 f3_1_1], .sl 1 (U.mks f3_2 (k0)).1, .sl 5 (U.mks f3_3 ((U.mks f3_2 (k0)).2)).1], .sl 9 (U.mks f4 ((U.mks f3_3 ((U.mks f3_2 (k0)).2)).2)).1]), .d (.i .i64 k0)] [.i .i64 ((U.mks f4 ((U.mks f3_3 ((U.mks f3_2 (k0)).2)).2)).2)]
  refine SpecP_intro Try.func21 rfl (by kernel_rfl) rfl fun A => ?_
  have hm3 := h3 (k0) (by omega) (by simp only [U.lf, U.lfs]; omega)
  have hs_f3_2 := mks_snd f3_2 (k0)
  have hs_f3_3 := mks_snd f3_3 ((U.mks f3_2 (k0)).2)
  repeat (first | refine VO_d ?_ | refine VQ_d ?_ | (first | refine VO_q (Q_call rfl hm3 (by (repeat (first | exact trivial | exact rfl | exact ⟨_, rfl⟩ | refine And.intro ?_ ?_)); first | done | fail)) rfl ?_ | refine VQ_q (Q_call rfl hm3 (by (repeat (first | exact trivial | exact rfl | exact ⟨_, rfl⟩ | refine And.intro ?_ ?_)); first | done | fail)) rfl ?_ | (refine VO_bare rfl rfl rfl rfl ?_; refine VO_q (Q_call rfl hm3 (by (repeat (first | exact trivial | exact rfl | exact ⟨_, rfl⟩ | refine And.intro ?_ ?_)); first | done | fail)) rfl ?_) | refine VQ_run rfl rfl rfl rfl (Q_call rfl hm3 (by (repeat (first | exact trivial | exact rfl | exact ⟨_, rfl⟩ | refine And.intro ?_ ?_)); first | done | fail)) rfl ?_) | (first | refine VO_nil ?_ | refine VQ_nil ?_) | (first | refine V_seq_region ?_ | refine V_seq (V_seq_region ?_) | refine V_seq_draw tmix (by kernel_rfl) ?_ | refine V_seq (V_seq_draw tmix (by kernel_rfl) ?_) | refine V_region ?_ | refine V_draw tmix (by kernel_rfl) ?_))
  (first | refine V_cond rfl (fun hc3 => ?_) (fun hc3 => ?_) | refine V_seq (V_cond rfl (fun hc3 => ?_) (fun hc3 => ?_)))
  · exfalso; simp only [decide_eq_true_eq] at hc3; change (U.mks f3_3 ((U.mks f3_2 (k0)).2)).2 < 0 at hc3; omega
  refine V_skip ?_
  clear hc3
  have hm4 := h4 ((U.mks f3_3 ((U.mks f3_2 (k0)).2)).2) (by omega) (by simp only [U.lf, U.lfs]; omega)
  have hs_f4 := mks_snd f4 ((U.mks f3_3 ((U.mks f3_2 (k0)).2)).2)
  repeat (first | refine VO_d ?_ | refine VQ_d ?_ | (first | refine VO_q (Q_call rfl hm4 (by (repeat (first | exact trivial | exact rfl | exact ⟨_, rfl⟩ | refine And.intro ?_ ?_)); first | done | fail)) rfl ?_ | refine VQ_q (Q_call rfl hm4 (by (repeat (first | exact trivial | exact rfl | exact ⟨_, rfl⟩ | refine And.intro ?_ ?_)); first | done | fail)) rfl ?_ | (refine VO_bare rfl rfl rfl rfl ?_; refine VO_q (Q_call rfl hm4 (by (repeat (first | exact trivial | exact rfl | exact ⟨_, rfl⟩ | refine And.intro ?_ ?_)); first | done | fail)) rfl ?_) | refine VQ_run rfl rfl rfl rfl (Q_call rfl hm4 (by (repeat (first | exact trivial | exact rfl | exact ⟨_, rfl⟩ | refine And.intro ?_ ?_)); first | done | fail)) rfl ?_) | (first | refine VO_nil ?_ | refine VQ_nil ?_) | (first | refine V_seq_region ?_ | refine V_seq (V_seq_region ?_) | refine V_seq_draw tmix (by kernel_rfl) ?_ | refine V_seq (V_seq_draw tmix (by kernel_rfl) ?_) | refine V_region ?_ | refine V_draw tmix (by kernel_rfl) ?_))
  (first | refine V_cond rfl (fun hc3 => ?_) (fun hc3 => ?_) | refine V_seq (V_cond rfl (fun hc3 => ?_) (fun hc3 => ?_)))
  · exfalso; simp only [decide_eq_true_eq] at hc3; change (U.mks f4 ((U.mks f3_3 ((U.mks f3_2 (k0)).2)).2)).2 < 0 at hc3; omega
  refine V_skip ?_
  clear hc3
  repeat (first | refine VO_d ?_ | refine VQ_d ?_  | (first | refine VO_nil ?_ | refine VQ_nil ?_) | (first | refine V_seq_region ?_ | refine V_seq (V_seq_region ?_) | refine V_seq_draw tmix (by kernel_rfl) ?_ | refine V_seq (V_seq_draw tmix (by kernel_rfl) ?_) | refine V_region ?_ | refine V_draw tmix (by kernel_rfl) ?_))
  refine V_ret ?_
  exact ⟨trivial, ⟨_, rfl, rfl⟩, trivial⟩

theorem heldValue_grp (u : U) : (∀ us, u = .sl 9 us → us.length ≤ big → (∀ x ∈ us, wt (.st 27) x) → PHe 51 u) := by
  refine U.ind (M := fun u => (∀ us, u = .sl 9 us → us.length ≤ big → (∀ x ∈ us, wt (.st 27) x) → PHe 51 u)) (fun u ih => ?_) u
  refine ?_
  · rintro us rfl hl hz
    exact heldValueS_step hl hz (fun a_0 a_1 a_2 a_3_0 a_3_1_0 a_3_1_1 a_3_2 a_3_3 a_4 ha => by obtain ⟨_, _, _, _, _, hx_a, qa_0, qa_1, qa_2, qa_3, qa_4⟩ := inv_Value (hz _ ha); cases hx_a; obtain ⟨_, _, _, _, hx_a_3, qa_3_0, qa_3_1, qa_3_2, qa_3_3⟩ := inv_Dictionary qa_3; cases hx_a_3; obtain ⟨_, _, hx_a_3_1, qa_3_1_0, qa_3_1_1⟩ := inv_InstanceRef qa_3_1; cases hx_a_3_1; exact heldIntS_all qa_3_2) (fun a_0 a_1 a_2 a_3_0 a_3_1_0 a_3_1_1 a_3_2 a_3_3 a_4 ha => by obtain ⟨_, _, _, _, _, hx_a, qa_0, qa_1, qa_2, qa_3, qa_4⟩ := inv_Value (hz _ ha); cases hx_a; obtain ⟨_, _, _, _, hx_a_3, qa_3_0, qa_3_1, qa_3_2, qa_3_3⟩ := inv_Dictionary qa_3; cases hx_a_3; obtain ⟨_, _, hx_a_3_1, qa_3_1_0, qa_3_1_1⟩ := inv_InstanceRef qa_3_1; cases hx_a_3_1; exact heldDictionaryS_all qa_3_3) (fun a_0 a_1 a_2 a_3_0 a_3_1_0 a_3_1_1 a_3_2 a_3_3 a_4 ha => by obtain ⟨_, _, _, _, _, hx_a, qa_0, qa_1, qa_2, qa_3, qa_4⟩ := inv_Value (hz _ ha); cases hx_a; obtain ⟨_, _, _, _, hx_a_3, qa_3_0, qa_3_1, qa_3_2, qa_3_3⟩ := inv_Dictionary qa_3; cases hx_a_3; obtain ⟨_, _, hx_a_3_1, qa_3_1_0, qa_3_1_1⟩ := inv_InstanceRef qa_3_1; cases hx_a_3_1; exact (ih (.sl 9 a_4) (by have := nn_of_mem ha; simp only [U.nn, U.nns] at this ⊢; omega)) a_4 rfl qa_4.1 qa_4.2)
theorem heldValueS_all {us : List U} (h : us.length ≤ big ∧ ∀ x ∈ us, wt (.st 27) x) : PHe 51 (.sl 9 us) := (heldValue_grp (.sl 9 us)) us rfl h.1 h.2
theorem heldValue_all {u : U} (h : wt (.st 27) u) : PHe 21 u := by
  obtain ⟨f0, f1, f2, f3, f4, rfl, p0, p1, p2, p3, p4⟩ := inv_Value h
  exact heldValue_step p3 (heldDictionary_all p3) (heldValueS_all p4)

end Go.Proofs.Ytjckkahiapjkfaa
