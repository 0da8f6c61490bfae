/- The contracts of the laws' own helpers that own or turn memory. Written by a program of mine (famO.py). -/
import Derived.Test.YthojhakapbfbiaaOwnS
import Derived.Test.YthojhakapbfbiaaEng28
set_option linter.unusedVariables false
set_option linter.unusedSimpArgs false
namespace Go.Proofs.Ythojhakapbfbiaa
open Go Go.Eng
attribute [local irreducible] V VO VQ VY Quiet SpecP SpecO MSpec

theorem markText_all (k : Int) (h0 : 0 < k) (h1 : k ≤ 4611686018427387904) : SpecP Try.prog 63 [.d (.i .i64 k)] [.s (txt k)] := by
  obtain ⟨n, rfl⟩ := Int.eq_ofNat_of_zero_le (Int.le_of_lt h0)
  show SpecP _ _ [.d (.i .i64 (n : Int))] [.s (109 :: dg 64 n [])]
  have hl := dg_len 64 n []
  obtain ⟨out, hout⟩ : ∃ out, dg 64 n [] = out := ⟨_, rfl⟩
  rw [hout] at hl ⊢
  simp only [List.length_nil, Nat.zero_add] at hl
  refine SpecP_intro Try.func63 rfl (by kernel_rfl) rfl fun A _ => ?_
  repeat (first | refine VO_d ?_ | refine VQ_d ?_  | (first | refine VO_nil ?_ | refine VQ_nil ?_) | (first | refine V_seq_region ?_ | refine V_seq (V_seq_region ?_) | refine V_seq_draw tmix (by kernel_rfl) ?_ | refine V_seq (V_seq_draw tmix (by kernel_rfl) ?_) | refine V_region ?_ | refine V_draw tmix (by kernel_rfl) ?_))
  (first | refine V_cond rfl (fun hc => ?_) (fun hc => ?_) | refine V_seq (V_cond rfl (fun hc => ?_) (fun hc => ?_)))
  · simp at hc; omega
  refine V_skip ?_
  repeat (first | refine VO_d ?_ | refine VQ_d ?_  | (first | refine VO_nil ?_ | refine VQ_nil ?_) | (first | refine V_seq_region ?_ | refine V_seq (V_seq_region ?_) | refine V_seq_draw tmix (by kernel_rfl) ?_ | refine V_seq (V_seq_draw tmix (by kernel_rfl) ?_) | refine V_region ?_ | refine V_draw tmix (by kernel_rfl) ?_))
  refine V_seq (V_block ?_)
  refine V_loop (α := Nat × Nat × List UInt8)
    (fun x => ⟨[(0, .d (.i .i64 (x.2.1 : Int))), (3, .d (.s x.2.2))], [], Try.f63.ntmps⟩)
    (fun x => x.2.1 ≤ n ∧ dg x.1 x.2.1 x.2.2 = out ∧ x.2.2.length + x.1 ≤ 64 ∧ x.2.1 < 10 ^ x.1)
    (fun x => x.2.1) (64, n, []) ⟨rfl, ⟨⟨rfl, rfl⟩, ⟨rfl, rfl⟩, trivial⟩, ⟨[], rfl⟩, rfl⟩ ⟨Nat.le_refl _, hout, by simp, by simp only; omega⟩ ?_
  rintro ⟨f, m, acc⟩ ⟨j1, j2, j3, j4⟩
  simp only at j1 j2 j3 j4
  repeat (first | refine VO_d ?_ | refine VQ_d ?_  | (first | refine VO_nil ?_ | refine VQ_nil ?_) | (first | refine V_seq_region ?_ | refine V_seq (V_seq_region ?_) | refine V_seq_draw tmix (by kernel_rfl) ?_ | refine V_seq (V_seq_draw tmix (by kernel_rfl) ?_) | refine V_region ?_ | refine V_draw tmix (by kernel_rfl) ?_))
  (first | refine V_cond rfl (fun hc2 => ?_) (fun hc2 => ?_) | refine V_seq (V_cond rfl (fun hc2 => ?_) (fun hc2 => ?_)))
  · refine V_skip ?_
    simp only [gt_iff_lt, decide_eq_true_eq] at hc2
    cases f with
    | zero => simp at j4; omega
    | succ f =>
    rw [dg, if_neg (by omega)] at j2
    refine V_block ?_
    repeat (first | refine VO_d ?_ | refine VQ_d ?_ | (first | refine VO_q (Q_rem (n := 10) rfl rfl rfl) rfl ?_ | refine VQ_q (Q_rem (n := 10) rfl rfl rfl) rfl ?_ | (refine VO_bare rfl rfl rfl rfl ?_; refine VO_q (Q_rem (n := 10) rfl rfl rfl) rfl ?_) | refine VQ_run rfl rfl rfl rfl (Q_rem (n := 10) rfl rfl rfl) rfl ?_) | (first | refine VO_q (Q_convI rfl TU.h TU.h) rfl ?_ | refine VQ_q (Q_convI rfl TU.h TU.h) rfl ?_ | (refine VO_bare rfl rfl rfl rfl ?_; refine VO_q (Q_convI rfl TU.h TU.h) rfl ?_) | refine VQ_run rfl rfl rfl rfl (Q_convI rfl TU.h TU.h) rfl ?_) | (first | refine VO_nil ?_ | refine VQ_nil ?_) | (first | refine V_seq_region ?_ | refine V_seq (V_seq_region ?_) | refine V_seq_draw tmix (by kernel_rfl) ?_ | refine V_seq (V_seq_draw tmix (by kernel_rfl) ?_) | refine V_region ?_ | refine V_draw tmix (by kernel_rfl) ?_))
    refine VR_slit1 (by repeat constructor) (by decide) TE.h TI.h TZ.h rfl rfl rfl (by repeat constructor) (by repeat constructor) ?_
    repeat (first | refine VO_d ?_ | refine VQ_d ?_ | (first | refine VO_q (Q_convB1 rfl rfl (tyE_und TE.h) TU.h TS.h) rfl ?_ | refine VQ_q (Q_convB1 rfl rfl (tyE_und TE.h) TU.h TS.h) rfl ?_ | (refine VO_bare rfl rfl rfl rfl ?_; refine VO_q (Q_convB1 rfl rfl (tyE_und TE.h) TU.h TS.h) rfl ?_) | refine VQ_run rfl rfl rfl rfl (Q_convB1 rfl rfl (tyE_und TE.h) TU.h TS.h) rfl ?_) | (first | refine VO_q (Q_adds rfl rfl (by rw [big_eq]; simp only [List.length_cons, List.length_nil]; omega)) rfl ?_ | refine VQ_q (Q_adds rfl rfl (by rw [big_eq]; simp only [List.length_cons, List.length_nil]; omega)) rfl ?_ | (refine VO_bare rfl rfl rfl rfl ?_; refine VO_q (Q_adds rfl rfl (by rw [big_eq]; simp only [List.length_cons, List.length_nil]; omega)) rfl ?_) | refine VQ_run rfl rfl rfl rfl (Q_adds rfl rfl (by rw [big_eq]; simp only [List.length_cons, List.length_nil]; omega)) rfl ?_) | (first | refine VO_q (Q_quo (m := m) (n := 10) rfl rfl rfl (by omega)) rfl ?_ | refine VQ_q (Q_quo (m := m) (n := 10) rfl rfl rfl (by omega)) rfl ?_ | (refine VO_bare rfl rfl rfl rfl ?_; refine VO_q (Q_quo (m := m) (n := 10) rfl rfl rfl (by omega)) rfl ?_) | refine VQ_run rfl rfl rfl rfl (Q_quo (m := m) (n := 10) rfl rfl rfl (by omega)) rfl ?_) | (first | refine VO_nil ?_ | refine VQ_nil ?_) | (first | refine V_seq_region ?_ | refine V_seq (V_seq_region ?_) | refine V_seq_draw tmix (by kernel_rfl) ?_ | refine V_seq (V_seq_draw tmix (by kernel_rfl) ?_) | refine V_region ?_ | refine V_draw tmix (by kernel_rfl) ?_))
    refine ⟨(f, m / 10, _ :: acc), ⟨?_, j2, ?_, ?_⟩, ?_, ⟨rfl, ⟨⟨rfl, rfl⟩, ⟨rfl, rfl⟩, trivial⟩, ⟨_, rfl⟩, rfl⟩⟩
    · simp only; omega
    · simp only [List.length_cons]; omega
    · simp only; rw [Nat.pow_succ] at j4; omega
    · simp only; omega
  refine V_exit ?_
  simp only [gt_iff_lt, decide_eq_false_iff_not] at hc2
  have hm : m = 0 := by omega
  subst hm
  have hacc : acc = out := by
    cases f with
    | zero => exact j2
    | succ f => rw [dg, if_pos rfl] at j2; exact j2
  subst hacc
  show V _ _ _ _ _
  repeat (first | refine VO_d ?_ | refine VQ_d ?_ | (first | refine VO_q (Q_adds rfl rfl (by rw [big_eq]; simp only [List.length_cons, List.length_nil]; omega)) rfl ?_ | refine VQ_q (Q_adds rfl rfl (by rw [big_eq]; simp only [List.length_cons, List.length_nil]; omega)) rfl ?_ | (refine VO_bare rfl rfl rfl rfl ?_; refine VO_q (Q_adds rfl rfl (by rw [big_eq]; simp only [List.length_cons, List.length_nil]; omega)) rfl ?_) | refine VQ_run rfl rfl rfl rfl (Q_adds rfl rfl (by rw [big_eq]; simp only [List.length_cons, List.length_nil]; omega)) rfl ?_) | (first | refine VO_nil ?_ | refine VQ_nil ?_) | (first | refine V_seq_region ?_ | refine V_seq (V_seq_region ?_) | refine V_seq_draw tmix (by kernel_rfl) ?_ | refine V_seq (V_seq_draw tmix (by kernel_rfl) ?_) | refine V_region ?_ | refine V_draw tmix (by kernel_rfl) ?_))
  refine V_ret ?_
  exact ⟨trivial, ⟨_, rfl, rfl⟩, trivial⟩

set_option maxHeartbeats 8000000 in
theorem markTypeS_step {us : List U} (hl : us.length ≤ big) (hz : ∀ a ∈ us, wt (.st 1) a) (ih0 : ∀ (a_0 : Int) (a_1 : List UInt8) (a_2 : List U), .st [.i .i64 a_0, .s a_1, .sl 3 a_2] ∈ us → PMk 43 (.sl 3 a_2)) : PMk 43 (.sl 3 us) := by
  intro k0 hk0 hk1
  have hlf : (U.sl 3 us).lf = U.lfs us := rfl
  rw [hlf] at hk1
  rw [big_eq] at hl
  show MSpec _ _ _ _ (.sl 3 (U.mks us k0).1) (U.mks us k0).2
  refine MSpec_intro (fun hv e => [.ownp (hv 0) (e 0) 3 us]) (fun hv e => [.ownp (hv 0) (e 0) 3 (U.mks us k0).1]) Try.func43 rfl (by kernel_rfl) rfl rfl (fun _ _ => .sl) (fun _ _ => .sl) rfl rfl fun A hv e _ => ?_
  repeat (first | refine VO_d ?_ | refine VQ_d ?_  | (first | refine VO_nil ?_ | refine VQ_nil ?_) | (first | refine V_seq_region ?_ | refine V_seq (V_seq_region ?_) | refine V_seq_draw tmix (by kernel_rfl) ?_ | refine V_seq (V_seq_draw tmix (by kernel_rfl) ?_) | refine V_region ?_ | refine V_draw tmix (by kernel_rfl) ?_))
  refine V_block ?_
  refine V_loop (α := Nat)
    (fun i => ⟨[(0, .sl 0 0), (1, .d (.i .i64 (U.mks (us.take i) k0).2)), (5, .d (.i .i64 i))], [.ownp (hv 0) (e 0) 3 ((U.mks (us.take i) k0).1 ++ us.drop i)], Try.f43.ntmps⟩)
    (fun i => i ≤ us.length)
    (fun i => us.length - i) 0 ⟨rfl, ⟨⟨rfl, rfl⟩, ⟨rfl, rfl⟩, ⟨rfl, rfl⟩, trivial⟩, ⟨[], rfl⟩, rfl⟩ (by simp) ?_
  intro i hi
  have hlen : ((U.mks (us.take i) k0).1 ++ us.drop i).length = us.length := by simp [mks_len]; omega
  repeat (first | refine VO_d ?_ | refine VQ_d ?_  | (first | refine VO_nil ?_ | refine VQ_nil ?_) | (first | refine V_seq_region ?_ | refine V_seq (V_seq_region ?_) | refine V_seq_draw tmix (by kernel_rfl) ?_ | refine V_seq (V_seq_draw tmix (by kernel_rfl) ?_) | refine V_region ?_ | refine V_draw tmix (by kernel_rfl) ?_))
  (first | refine V_cond rfl (fun hc2 => ?_) (fun hc2 => ?_) | refine V_seq (V_cond rfl (fun hc2 => ?_) (fun hc2 => ?_)))
  · refine V_skip ?_
    simp only [decide_eq_true_eq] at hc2
    rw [hlen] at hc2
    have hil : i < us.length := by omega
    obtain ⟨a, hget⟩ : ∃ a, us[i]? = some a := ⟨_, List.getElem?_eq_getElem hil⟩
    have hmem := List.mem_of_getElem? hget
    have hdrop := drop_get hget
    obtain ⟨hn1, hn2⟩ := mks_next hget k0
    have hmid := lfs_mid hget
    have hsnd := mks_snd (us.take i) k0
    have hpl : (U.mks (us.take i) k0).1.length = i := by simp [mks_len]; omega
    have hwa := hz a hmem
    obtain ⟨a_0, a_1, a_2, rfl, hwa_0, hwa_1, hwa_2⟩ := inv_Type hwa
    have hlfa : ((.st [.i .i64 a_0, .s a_1, .sl 3 a_2]) : U).lf = 0 + 1 + 1 + U.lfs a_2 := by simp [U.lf, U.lfs]; omega
    rw [hlfa] at hmid
    refine V_cast [.ownp (hv 0) (e 0) 3 ((U.mks (us.take i) k0).1 ++ (.st [.i .i64 a_0, .s a_1, .sl 3 a_2]) :: us.drop (i + 1))] (by rw [hdrop]) ?_
    have hkp : 0 < (U.mks (us.take i) k0).2 := by omega
    have hkb : (U.mks (us.take i) k0).2 + (0 + 1 + 1 + U.lfs a_2 : Nat) ≤ 4611686018427387904 := by omega
    have hlen' : ((U.mks (us.take i) k0).1 ++ (.st [.i .i64 a_0, .s a_1, .sl 3 a_2]) :: us.drop (i + 1)).length = us.length := by rw [← hdrop]; exact hlen
    clear hdrop hsnd hlfa hmid hlen
    generalize (U.mks (us.take i) k0).1 = pre at hn1 hpl hlen' ⊢
    generalize (U.mks (us.take i) k0).2 = kk at hn1 hn2 hkp hkb ⊢
    generalize hpost : us.drop (i + 1) = post at hlen' ⊢
    rw [List.length_append, List.length_cons] at hlen'
    refine V_seq (V_block ?_)
    repeat (first | refine VO_d ?_ | refine VQ_d ?_ | (first | refine VO_q (Q_index_own rfl rfl .ownp rfl TE.h TI.h (by omega) (by rw [List.length_append, List.length_cons]; omega)) rfl ?_ | refine VQ_q (Q_index_own rfl rfl .ownp rfl TE.h TI.h (by omega) (by rw [List.length_append, List.length_cons]; omega)) rfl ?_ | (refine VO_bare rfl rfl rfl rfl ?_; refine VO_q (Q_index_own rfl rfl .ownp rfl TE.h TI.h (by omega) (by rw [List.length_append, List.length_cons]; omega)) rfl ?_) | refine VQ_run rfl rfl rfl rfl (Q_index_own rfl rfl .ownp rfl TE.h TI.h (by omega) (by rw [List.length_append, List.length_cons]; omega)) rfl ?_) | (first | refine VO_nil ?_ | refine VQ_nil ?_) | (first | refine V_seq_region ?_ | refine V_seq (V_seq_region ?_) | refine V_seq_draw tmix (by kernel_rfl) ?_ | refine V_seq (V_seq_draw tmix (by kernel_rfl) ?_) | refine V_region ?_ | refine V_draw tmix (by kernel_rfl) ?_))
    refine VR_storeF (v := .i .i64 (kk)) rfl rfl .ownp hpl rfl rfl TI.h (by repeat constructor) .ownp (by repeat constructor) ?_
    have ht1 := markText_all (kk + 1) (by omega) (by omega)
    repeat (first | refine VO_d ?_ | refine VQ_d ?_ | (first | refine VO_q (Q_index_own rfl rfl .ownp rfl TE.h TI.h (by omega) (by rw [List.length_append, List.length_cons]; omega)) rfl ?_ | refine VQ_q (Q_index_own rfl rfl .ownp rfl TE.h TI.h (by omega) (by rw [List.length_append, List.length_cons]; omega)) rfl ?_ | (refine VO_bare rfl rfl rfl rfl ?_; refine VO_q (Q_index_own rfl rfl .ownp rfl TE.h TI.h (by omega) (by rw [List.length_append, List.length_cons]; omega)) rfl ?_) | refine VQ_run rfl rfl rfl rfl (Q_index_own rfl rfl .ownp rfl TE.h TI.h (by omega) (by rw [List.length_append, List.length_cons]; omega)) rfl ?_) | (first | refine VO_q (Q_call rfl ht1 (by (repeat (first | exact trivial | exact rfl | exact ⟨_, rfl⟩ | refine And.intro ?_ ?_)); first | done | fail)) rfl ?_ | refine VQ_q (Q_call rfl ht1 (by (repeat (first | exact trivial | exact rfl | exact ⟨_, rfl⟩ | refine And.intro ?_ ?_)); first | done | fail)) rfl ?_ | (refine VO_bare rfl rfl rfl rfl ?_; refine VO_q (Q_call rfl ht1 (by (repeat (first | exact trivial | exact rfl | exact ⟨_, rfl⟩ | refine And.intro ?_ ?_)); first | done | fail)) rfl ?_) | refine VQ_run rfl rfl rfl rfl (Q_call rfl ht1 (by (repeat (first | exact trivial | exact rfl | exact ⟨_, rfl⟩ | refine And.intro ?_ ?_)); first | done | fail)) rfl ?_) | (first | refine VO_nil ?_ | refine VQ_nil ?_) | (first | refine V_seq_region ?_ | refine V_seq (V_seq_region ?_) | refine V_seq_draw tmix (by kernel_rfl) ?_ | refine V_seq (V_seq_draw tmix (by kernel_rfl) ?_) | refine V_region ?_ | refine V_draw tmix (by kernel_rfl) ?_))
    refine VR_storeF (v := .s (txt (kk + 1))) rfl rfl .ownp hpl rfl rfl TI.h (by repeat constructor) .ownp (by repeat constructor) ?_
    have hm2 := ih0 a_0 a_1 a_2 hmem (kk + 1 + 1) (by omega) (by simp only [U.lf]; omega)
    change MSpec _ _ _ _ (.sl 3 (U.mks a_2 (kk + 1 + 1)).1) (U.mks a_2 (kk + 1 + 1)).2 at hm2
    have hs2 := mks_snd a_2 (kk + 1 + 1)
    repeat (first | refine VO_d ?_ | refine VQ_d ?_ | (first | refine VO_q (Q_index_own rfl rfl .ownp rfl TE.h TI.h (by omega) (by rw [List.length_append, List.length_cons]; omega)) rfl ?_ | refine VQ_q (Q_index_own rfl rfl .ownp rfl TE.h TI.h (by omega) (by rw [List.length_append, List.length_cons]; omega)) rfl ?_ | (refine VO_bare rfl rfl rfl rfl ?_; refine VO_q (Q_index_own rfl rfl .ownp rfl TE.h TI.h (by omega) (by rw [List.length_append, List.length_cons]; omega)) rfl ?_) | refine VQ_run rfl rfl rfl rfl (Q_index_own rfl rfl .ownp rfl TE.h TI.h (by omega) (by rw [List.length_append, List.length_cons]; omega)) rfl ?_) | (first | refine VO_nil ?_ | refine VQ_nil ?_) | (first | refine V_seq_region ?_ | refine V_seq (V_seq_region ?_) | refine V_seq_draw tmix (by kernel_rfl) ?_ | refine V_seq (V_seq_draw tmix (by kernel_rfl) ?_) | refine V_region ?_ | refine V_draw tmix (by kernel_rfl) ?_))
    refine VR_markcall hm2 rfl rfl .ownp hpl TI.h (by repeat constructor) rfl rfl (by simp) .ownp (by repeat constructor) rfl rfl rfl (by decide) ?_
    repeat (first | refine VO_d ?_ | refine VQ_d ?_  | (first | refine VO_nil ?_ | refine VQ_nil ?_) | (first | refine V_seq_region ?_ | refine V_seq (V_seq_region ?_) | refine V_seq_draw tmix (by kernel_rfl) ?_ | refine V_seq (V_seq_draw tmix (by kernel_rfl) ?_) | refine V_region ?_ | refine V_draw tmix (by kernel_rfl) ?_))
    refine ⟨i + 1, by omega, by omega, ⟨rfl, ⟨⟨rfl, rfl⟩, ⟨?_, rfl⟩, ⟨rfl, rfl⟩, trivial⟩, ⟨[], ?_⟩, rfl⟩⟩
    · rw [hn2]; rfl
    · rw [hn1, hpost, List.append_assoc]; rfl
  · refine V_exit ?_
    simp only [decide_eq_false_iff_not] at hc2
    rw [hlen] at hc2
    have hkl : i = us.length := by omega
    subst hkl
    show V _ _ _ _ _
    repeat (first | refine VO_d ?_ | refine VQ_d ?_  | (first | refine VO_nil ?_ | refine VQ_nil ?_) | (first | refine V_seq_region ?_ | refine V_seq (V_seq_region ?_) | refine V_seq_draw tmix (by kernel_rfl) ?_ | refine V_seq (V_seq_draw tmix (by kernel_rfl) ?_) | refine V_region ?_ | refine V_draw tmix (by kernel_rfl) ?_))
    refine V_ret ?_
    refine ⟨trivial, ?_, [], ?_⟩
    · show SV.d (.i .i64 (U.mks (us.take us.length) k0).2) = _
      rw [List.take_length]
    · simp only [List.take_length, List.drop_length, List.append_nil]

set_option maxHeartbeats 8000000 in
theorem markType_step {f0 : Int} {f1 : List UInt8} {f2 : List U} (h2 : PMk 43 (.sl 3 f2)) : PMk 14 (.st [.i .i64 f0, .s f1, .sl 3 f2]) := by
  intro k0 hk0 hk1
  have hlf : ((.st [.i .i64 f0, .s f1, .sl 3 f2]) : U).lf = 0 + 1 + 1 + U.lfs f2 := by simp [U.lf, U.lfs]; omega
  rw [hlf] at hk1
  show MSpec _ _ _ _ (.st [.i .i64 f0, .s f1, .sl 3 (U.mks f2 (k0)).1]) ((U.mks f2 (k0)).2)
  refine MSpec_intro (fun hv e => [.ownp (hv 0) (e 0) 3 f2]) (fun hv e => [.ownp (hv 0) (e 0) 3 (U.mks f2 (k0)).1]) Try.func14 rfl (by kernel_rfl) rfl rfl (fun _ _ => by repeat constructor) (fun _ _ => by repeat constructor) rfl rfl fun A hv e _ => ?_
  have hm2 := h2 (k0) (by omega) (by simp only [U.lf, U.lfs]; omega)
  have hs_f2 := mks_snd f2 (k0)
  repeat (first | refine VO_d ?_ | refine VQ_d ?_  | (first | refine VO_nil ?_ | refine VQ_nil ?_) | (first | refine V_seq_region ?_ | refine V_seq (V_seq_region ?_) | refine V_seq_draw tmix (by kernel_rfl) ?_ | refine V_seq (V_seq_draw tmix (by kernel_rfl) ?_) | refine V_region ?_ | refine V_draw tmix (by kernel_rfl) ?_))
  refine VO_callM rfl hm2 rfl rfl (by repeat (first | exact rfl | constructor)) rfl (by repeat constructor) rfl ?_
  repeat (first | refine VO_d ?_ | refine VQ_d ?_  | (first | refine VO_nil ?_ | refine VQ_nil ?_) | (first | refine V_seq_region ?_ | refine V_seq (V_seq_region ?_) | refine V_seq_draw tmix (by kernel_rfl) ?_ | refine V_seq (V_seq_draw tmix (by kernel_rfl) ?_) | refine V_region ?_ | refine V_draw tmix (by kernel_rfl) ?_))
  refine V_ret ?_
  exact ⟨trivial, rfl, _, rfl⟩

theorem markType_grp (u : U) : (∀ us, u = .sl 3 us → us.length ≤ big → (∀ x ∈ us, wt (.st 1) x) → PMk 43 u) := by
  refine U.ind (M := fun u => (∀ us, u = .sl 3 us → us.length ≤ big → (∀ x ∈ us, wt (.st 1) x) → PMk 43 u)) (fun u ih => ?_) u
  refine ?_
  · rintro us rfl hl hz
    exact markTypeS_step hl hz (fun a_0 a_1 a_2 ha => by obtain ⟨_, _, _, hx_a, qa_0, qa_1, qa_2⟩ := inv_Type (hz _ ha); cases hx_a; exact (ih (.sl 3 a_2) (by have := nn_of_mem ha; simp only [U.nn, U.nns] at this ⊢; omega)) a_2 rfl qa_2.1 qa_2.2)
theorem markTypeS_all {us : List U} (h : us.length ≤ big ∧ ∀ x ∈ us, wt (.st 1) x) : PMk 43 (.sl 3 us) := (markType_grp (.sl 3 us)) us rfl h.1 h.2
theorem markType_all {u : U} (h : wt (.st 1) u) : PMk 14 u := by
  obtain ⟨f0, f1, f2, rfl, p0, p1, p2⟩ := inv_Type h
  exact markType_step (markTypeS_all p2)

set_option maxHeartbeats 8000000 in
theorem markBindingS_step {us : List U} (hl : us.length ≤ big) (hz : ∀ a ∈ us, wt (.st 2) a) (ih0 : ∀ (a_0 : List UInt8) (a_1_0 : Int) (a_1_1 : List UInt8) (a_1_2 : List U), .st [.s a_0, .st [.i .i64 a_1_0, .s a_1_1, .sl 3 a_1_2]] ∈ us → PMk 43 (.sl 3 a_1_2)) : PMk 24 (.sl 4 us) := by
  intro k0 hk0 hk1
  have hlf : (U.sl 4 us).lf = U.lfs us := rfl
  rw [hlf] at hk1
  rw [big_eq] at hl
  show MSpec _ _ _ _ (.sl 4 (U.mks us k0).1) (U.mks us k0).2
  refine MSpec_intro (fun hv e => [.ownp (hv 0) (e 0) 4 us]) (fun hv e => [.ownp (hv 0) (e 0) 4 (U.mks us k0).1]) Try.func24 rfl (by kernel_rfl) rfl rfl (fun _ _ => .sl) (fun _ _ => .sl) rfl rfl fun A hv e _ => ?_
  repeat (first | refine VO_d ?_ | refine VQ_d ?_  | (first | refine VO_nil ?_ | refine VQ_nil ?_) | (first | refine V_seq_region ?_ | refine V_seq (V_seq_region ?_) | refine V_seq_draw tmix (by kernel_rfl) ?_ | refine V_seq (V_seq_draw tmix (by kernel_rfl) ?_) | refine V_region ?_ | refine V_draw tmix (by kernel_rfl) ?_))
  refine V_block ?_
  refine V_loop (α := Nat)
    (fun i => ⟨[(0, .sl 0 0), (1, .d (.i .i64 (U.mks (us.take i) k0).2)), (5, .d (.i .i64 i))], [.ownp (hv 0) (e 0) 4 ((U.mks (us.take i) k0).1 ++ us.drop i)], Try.f24.ntmps⟩)
    (fun i => i ≤ us.length)
    (fun i => us.length - i) 0 ⟨rfl, ⟨⟨rfl, rfl⟩, ⟨rfl, rfl⟩, ⟨rfl, rfl⟩, trivial⟩, ⟨[], rfl⟩, rfl⟩ (by simp) ?_
  intro i hi
  have hlen : ((U.mks (us.take i) k0).1 ++ us.drop i).length = us.length := by simp [mks_len]; omega
  repeat (first | refine VO_d ?_ | refine VQ_d ?_  | (first | refine VO_nil ?_ | refine VQ_nil ?_) | (first | refine V_seq_region ?_ | refine V_seq (V_seq_region ?_) | refine V_seq_draw tmix (by kernel_rfl) ?_ | refine V_seq (V_seq_draw tmix (by kernel_rfl) ?_) | refine V_region ?_ | refine V_draw tmix (by kernel_rfl) ?_))
  (first | refine V_cond rfl (fun hc2 => ?_) (fun hc2 => ?_) | refine V_seq (V_cond rfl (fun hc2 => ?_) (fun hc2 => ?_)))
  · refine V_skip ?_
    simp only [decide_eq_true_eq] at hc2
    rw [hlen] at hc2
    have hil : i < us.length := by omega
    obtain ⟨a, hget⟩ : ∃ a, us[i]? = some a := ⟨_, List.getElem?_eq_getElem hil⟩
    have hmem := List.mem_of_getElem? hget
    have hdrop := drop_get hget
    obtain ⟨hn1, hn2⟩ := mks_next hget k0
    have hmid := lfs_mid hget
    have hsnd := mks_snd (us.take i) k0
    have hpl : (U.mks (us.take i) k0).1.length = i := by simp [mks_len]; omega
    have hwa := hz a hmem
    obtain ⟨a_0, a_1, rfl, hwa_0, hwa_1⟩ := inv_Binding hwa
    obtain ⟨a_1_0, a_1_1, a_1_2, rfl, hwa_1_0, hwa_1_1, hwa_1_2⟩ := inv_Type hwa_1
    have hlfa : ((.st [.s a_0, .st [.i .i64 a_1_0, .s a_1_1, .sl 3 a_1_2]]) : U).lf = 0 + 1 + 1 + 1 + U.lfs a_1_2 := by simp [U.lf, U.lfs]; omega
    rw [hlfa] at hmid
    refine V_cast [.ownp (hv 0) (e 0) 4 ((U.mks (us.take i) k0).1 ++ (.st [.s a_0, .st [.i .i64 a_1_0, .s a_1_1, .sl 3 a_1_2]]) :: us.drop (i + 1))] (by rw [hdrop]) ?_
    have hkp : 0 < (U.mks (us.take i) k0).2 := by omega
    have hkb : (U.mks (us.take i) k0).2 + (0 + 1 + 1 + 1 + U.lfs a_1_2 : Nat) ≤ 4611686018427387904 := by omega
    have hlen' : ((U.mks (us.take i) k0).1 ++ (.st [.s a_0, .st [.i .i64 a_1_0, .s a_1_1, .sl 3 a_1_2]]) :: us.drop (i + 1)).length = us.length := by rw [← hdrop]; exact hlen
    clear hdrop hsnd hlfa hmid hlen
    generalize (U.mks (us.take i) k0).1 = pre at hn1 hpl hlen' ⊢
    generalize (U.mks (us.take i) k0).2 = kk at hn1 hn2 hkp hkb ⊢
    generalize hpost : us.drop (i + 1) = post at hlen' ⊢
    rw [List.length_append, List.length_cons] at hlen'
    refine V_seq (V_block ?_)
    have ht0 := markText_all (kk) (by omega) (by omega)
    repeat (first | refine VO_d ?_ | refine VQ_d ?_ | (first | refine VO_q (Q_index_own rfl rfl .ownp rfl TE.h TI.h (by omega) (by rw [List.length_append, List.length_cons]; omega)) rfl ?_ | refine VQ_q (Q_index_own rfl rfl .ownp rfl TE.h TI.h (by omega) (by rw [List.length_append, List.length_cons]; omega)) rfl ?_ | (refine VO_bare rfl rfl rfl rfl ?_; refine VO_q (Q_index_own rfl rfl .ownp rfl TE.h TI.h (by omega) (by rw [List.length_append, List.length_cons]; omega)) rfl ?_) | refine VQ_run rfl rfl rfl rfl (Q_index_own rfl rfl .ownp rfl TE.h TI.h (by omega) (by rw [List.length_append, List.length_cons]; omega)) rfl ?_) | (first | refine VO_q (Q_call rfl ht0 (by (repeat (first | exact trivial | exact rfl | exact ⟨_, rfl⟩ | refine And.intro ?_ ?_)); first | done | fail)) rfl ?_ | refine VQ_q (Q_call rfl ht0 (by (repeat (first | exact trivial | exact rfl | exact ⟨_, rfl⟩ | refine And.intro ?_ ?_)); first | done | fail)) rfl ?_ | (refine VO_bare rfl rfl rfl rfl ?_; refine VO_q (Q_call rfl ht0 (by (repeat (first | exact trivial | exact rfl | exact ⟨_, rfl⟩ | refine And.intro ?_ ?_)); first | done | fail)) rfl ?_) | refine VQ_run rfl rfl rfl rfl (Q_call rfl ht0 (by (repeat (first | exact trivial | exact rfl | exact ⟨_, rfl⟩ | refine And.intro ?_ ?_)); first | done | fail)) rfl ?_) | (first | refine VO_nil ?_ | refine VQ_nil ?_) | (first | refine V_seq_region ?_ | refine V_seq (V_seq_region ?_) | refine V_seq_draw tmix (by kernel_rfl) ?_ | refine V_seq (V_seq_draw tmix (by kernel_rfl) ?_) | refine V_region ?_ | refine V_draw tmix (by kernel_rfl) ?_))
    refine VR_storeF (v := .s (txt (kk))) rfl rfl .ownp hpl rfl rfl TI.h (by repeat constructor) .ownp (by repeat constructor) ?_
    repeat (first | refine VO_d ?_ | refine VQ_d ?_ | (first | refine VO_q (Q_index_own rfl rfl .ownp rfl TE.h TI.h (by omega) (by rw [List.length_append, List.length_cons]; omega)) rfl ?_ | refine VQ_q (Q_index_own rfl rfl .ownp rfl TE.h TI.h (by omega) (by rw [List.length_append, List.length_cons]; omega)) rfl ?_ | (refine VO_bare rfl rfl rfl rfl ?_; refine VO_q (Q_index_own rfl rfl .ownp rfl TE.h TI.h (by omega) (by rw [List.length_append, List.length_cons]; omega)) rfl ?_) | refine VQ_run rfl rfl rfl rfl (Q_index_own rfl rfl .ownp rfl TE.h TI.h (by omega) (by rw [List.length_append, List.length_cons]; omega)) rfl ?_) | (first | refine VO_nil ?_ | refine VQ_nil ?_) | (first | refine V_seq_region ?_ | refine V_seq (V_seq_region ?_) | refine V_seq_draw tmix (by kernel_rfl) ?_ | refine V_seq (V_seq_draw tmix (by kernel_rfl) ?_) | refine V_region ?_ | refine V_draw tmix (by kernel_rfl) ?_))
    refine VR_storeF (v := .i .i64 (kk + 1)) rfl rfl .ownp hpl rfl rfl TI.h (by repeat constructor) .ownp (by repeat constructor) ?_
    have ht2 := markText_all (kk + 1 + 1) (by omega) (by omega)
    repeat (first | refine VO_d ?_ | refine VQ_d ?_ | (first | refine VO_q (Q_index_own rfl rfl .ownp rfl TE.h TI.h (by omega) (by rw [List.length_append, List.length_cons]; omega)) rfl ?_ | refine VQ_q (Q_index_own rfl rfl .ownp rfl TE.h TI.h (by omega) (by rw [List.length_append, List.length_cons]; omega)) rfl ?_ | (refine VO_bare rfl rfl rfl rfl ?_; refine VO_q (Q_index_own rfl rfl .ownp rfl TE.h TI.h (by omega) (by rw [List.length_append, List.length_cons]; omega)) rfl ?_) | refine VQ_run rfl rfl rfl rfl (Q_index_own rfl rfl .ownp rfl TE.h TI.h (by omega) (by rw [List.length_append, List.length_cons]; omega)) rfl ?_) | (first | refine VO_q (Q_call rfl ht2 (by (repeat (first | exact trivial | exact rfl | exact ⟨_, rfl⟩ | refine And.intro ?_ ?_)); first | done | fail)) rfl ?_ | refine VQ_q (Q_call rfl ht2 (by (repeat (first | exact trivial | exact rfl | exact ⟨_, rfl⟩ | refine And.intro ?_ ?_)); first | done | fail)) rfl ?_ | (refine VO_bare rfl rfl rfl rfl ?_; refine VO_q (Q_call rfl ht2 (by (repeat (first | exact trivial | exact rfl | exact ⟨_, rfl⟩ | refine And.intro ?_ ?_)); first | done | fail)) rfl ?_) | refine VQ_run rfl rfl rfl rfl (Q_call rfl ht2 (by (repeat (first | exact trivial | exact rfl | exact ⟨_, rfl⟩ | refine And.intro ?_ ?_)); first | done | fail)) rfl ?_) | (first | refine VO_nil ?_ | refine VQ_nil ?_) | (first | refine V_seq_region ?_ | refine V_seq (V_seq_region ?_) | refine V_seq_draw tmix (by kernel_rfl) ?_ | refine V_seq (V_seq_draw tmix (by kernel_rfl) ?_) | refine V_region ?_ | refine V_draw tmix (by kernel_rfl) ?_))
    refine VR_storeF (v := .s (txt (kk + 1 + 1))) rfl rfl .ownp hpl rfl rfl TI.h (by repeat constructor) .ownp (by repeat constructor) ?_
    have hm3 := ih0 a_0 a_1_0 a_1_1 a_1_2 hmem (kk + 1 + 1 + 1) (by omega) (by simp only [U.lf]; omega)
    change MSpec _ _ _ _ (.sl 3 (U.mks a_1_2 (kk + 1 + 1 + 1)).1) (U.mks a_1_2 (kk + 1 + 1 + 1)).2 at hm3
    have hs3 := mks_snd a_1_2 (kk + 1 + 1 + 1)
    repeat (first | refine VO_d ?_ | refine VQ_d ?_ | (first | refine VO_q (Q_index_own rfl rfl .ownp rfl TE.h TI.h (by omega) (by rw [List.length_append, List.length_cons]; omega)) rfl ?_ | refine VQ_q (Q_index_own rfl rfl .ownp rfl TE.h TI.h (by omega) (by rw [List.length_append, List.length_cons]; omega)) rfl ?_ | (refine VO_bare rfl rfl rfl rfl ?_; refine VO_q (Q_index_own rfl rfl .ownp rfl TE.h TI.h (by omega) (by rw [List.length_append, List.length_cons]; omega)) rfl ?_) | refine VQ_run rfl rfl rfl rfl (Q_index_own rfl rfl .ownp rfl TE.h TI.h (by omega) (by rw [List.length_append, List.length_cons]; omega)) rfl ?_) | (first | refine VO_nil ?_ | refine VQ_nil ?_) | (first | refine V_seq_region ?_ | refine V_seq (V_seq_region ?_) | refine V_seq_draw tmix (by kernel_rfl) ?_ | refine V_seq (V_seq_draw tmix (by kernel_rfl) ?_) | refine V_region ?_ | refine V_draw tmix (by kernel_rfl) ?_))
    refine VR_markcall hm3 rfl rfl .ownp hpl TI.h (by repeat constructor) rfl rfl (by simp) .ownp (by repeat constructor) rfl rfl rfl (by decide) ?_
    repeat (first | refine VO_d ?_ | refine VQ_d ?_  | (first | refine VO_nil ?_ | refine VQ_nil ?_) | (first | refine V_seq_region ?_ | refine V_seq (V_seq_region ?_) | refine V_seq_draw tmix (by kernel_rfl) ?_ | refine V_seq (V_seq_draw tmix (by kernel_rfl) ?_) | refine V_region ?_ | refine V_draw tmix (by kernel_rfl) ?_))
    refine ⟨i + 1, by omega, by omega, ⟨rfl, ⟨⟨rfl, rfl⟩, ⟨?_, rfl⟩, ⟨rfl, rfl⟩, trivial⟩, ⟨[], ?_⟩, rfl⟩⟩
    · rw [hn2]; rfl
    · rw [hn1, hpost, List.append_assoc]; rfl
  · refine V_exit ?_
    simp only [decide_eq_false_iff_not] at hc2
    rw [hlen] at hc2
    have hkl : i = us.length := by omega
    subst hkl
    show V _ _ _ _ _
    repeat (first | refine VO_d ?_ | refine VQ_d ?_  | (first | refine VO_nil ?_ | refine VQ_nil ?_) | (first | refine V_seq_region ?_ | refine V_seq (V_seq_region ?_) | refine V_seq_draw tmix (by kernel_rfl) ?_ | refine V_seq (V_seq_draw tmix (by kernel_rfl) ?_) | refine V_region ?_ | refine V_draw tmix (by kernel_rfl) ?_))
    refine V_ret ?_
    refine ⟨trivial, ?_, [], ?_⟩
    · show SV.d (.i .i64 (U.mks (us.take us.length) k0).2) = _
      rw [List.take_length]
    · simp only [List.take_length, List.drop_length, List.append_nil]

theorem markBinding_grp (u : U) : (∀ us, u = .sl 4 us → us.length ≤ big → (∀ x ∈ us, wt (.st 2) x) → PMk 24 u) := by
  refine U.ind (M := fun u => (∀ us, u = .sl 4 us → us.length ≤ big → (∀ x ∈ us, wt (.st 2) x) → PMk 24 u)) (fun u ih => ?_) u
  refine ?_
  · rintro us rfl hl hz
    exact markBindingS_step hl hz (fun a_0 a_1_0 a_1_1 a_1_2 ha => by obtain ⟨_, _, hx_a, qa_0, qa_1⟩ := inv_Binding (hz _ ha); cases hx_a; obtain ⟨_, _, _, hx_a_1, qa_1_0, qa_1_1, qa_1_2⟩ := inv_Type qa_1; cases hx_a_1; exact markTypeS_all qa_1_2)
theorem markBindingS_all {us : List U} (h : us.length ≤ big ∧ ∀ x ∈ us, wt (.st 2) x) : PMk 24 (.sl 4 us) := (markBinding_grp (.sl 4 us)) us rfl h.1 h.2
set_option maxHeartbeats 8000000 in
theorem markEvidenceS_step {us : List U} (hl : us.length ≤ big) (hz : ∀ a ∈ us, wt (.st 18) a) (ih0 : ∀ (a_0 : Int) (a_1 : Int) (a_2_0 : Int) (a_2_1 : Int) (a_3 : List U), .st [.i .i64 a_0, .i .i64 a_1, .st [.i .i64 a_2_0, .i .i64 a_2_1], .sl 5 a_3] ∈ us → PMk 64 (.sl 5 a_3)) : PMk 64 (.sl 5 us) := by
  intro k0 hk0 hk1
  have hlf : (U.sl 5 us).lf = U.lfs us := rfl
  rw [hlf] at hk1
  rw [big_eq] at hl
  show MSpec _ _ _ _ (.sl 5 (U.mks us k0).1) (U.mks us k0).2
  refine MSpec_intro (fun hv e => [.ownp (hv 0) (e 0) 5 us]) (fun hv e => [.ownp (hv 0) (e 0) 5 (U.mks us k0).1]) Try.func64 rfl (by kernel_rfl) rfl rfl (fun _ _ => .sl) (fun _ _ => .sl) rfl rfl fun A hv e _ => ?_
  repeat (first | refine VO_d ?_ | refine VQ_d ?_  | (first | refine VO_nil ?_ | refine VQ_nil ?_) | (first | refine V_seq_region ?_ | refine V_seq (V_seq_region ?_) | refine V_seq_draw tmix (by kernel_rfl) ?_ | refine V_seq (V_seq_draw tmix (by kernel_rfl) ?_) | refine V_region ?_ | refine V_draw tmix (by kernel_rfl) ?_))
  refine V_block ?_
  refine V_loop (α := Nat)
    (fun i => ⟨[(0, .sl 0 0), (1, .d (.i .i64 (U.mks (us.take i) k0).2)), (5, .d (.i .i64 i))], [.ownp (hv 0) (e 0) 5 ((U.mks (us.take i) k0).1 ++ us.drop i)], Try.f64.ntmps⟩)
    (fun i => i ≤ us.length)
    (fun i => us.length - i) 0 ⟨rfl, ⟨⟨rfl, rfl⟩, ⟨rfl, rfl⟩, ⟨rfl, rfl⟩, trivial⟩, ⟨[], rfl⟩, rfl⟩ (by simp) ?_
  intro i hi
  have hlen : ((U.mks (us.take i) k0).1 ++ us.drop i).length = us.length := by simp [mks_len]; omega
  repeat (first | refine VO_d ?_ | refine VQ_d ?_  | (first | refine VO_nil ?_ | refine VQ_nil ?_) | (first | refine V_seq_region ?_ | refine V_seq (V_seq_region ?_) | refine V_seq_draw tmix (by kernel_rfl) ?_ | refine V_seq (V_seq_draw tmix (by kernel_rfl) ?_) | refine V_region ?_ | refine V_draw tmix (by kernel_rfl) ?_))
  (first | refine V_cond rfl (fun hc2 => ?_) (fun hc2 => ?_) | refine V_seq (V_cond rfl (fun hc2 => ?_) (fun hc2 => ?_)))
  · refine V_skip ?_
    simp only [decide_eq_true_eq] at hc2
    rw [hlen] at hc2
    have hil : i < us.length := by omega
    obtain ⟨a, hget⟩ : ∃ a, us[i]? = some a := ⟨_, List.getElem?_eq_getElem hil⟩
    have hmem := List.mem_of_getElem? hget
    have hdrop := drop_get hget
    obtain ⟨hn1, hn2⟩ := mks_next hget k0
    have hmid := lfs_mid hget
    have hsnd := mks_snd (us.take i) k0
    have hpl : (U.mks (us.take i) k0).1.length = i := by simp [mks_len]; omega
    have hwa := hz a hmem
    obtain ⟨a_0, a_1, a_2, a_3, rfl, hwa_0, hwa_1, hwa_2, hwa_3⟩ := inv_Evidence hwa
    obtain ⟨a_2_0, a_2_1, rfl, hwa_2_0, hwa_2_1⟩ := inv_InstanceRef hwa_2
    have hlfa : ((.st [.i .i64 a_0, .i .i64 a_1, .st [.i .i64 a_2_0, .i .i64 a_2_1], .sl 5 a_3]) : U).lf = 0 + 1 + 1 + 1 + 1 + U.lfs a_3 := by simp [U.lf, U.lfs]; omega
    rw [hlfa] at hmid
    refine V_cast [.ownp (hv 0) (e 0) 5 ((U.mks (us.take i) k0).1 ++ (.st [.i .i64 a_0, .i .i64 a_1, .st [.i .i64 a_2_0, .i .i64 a_2_1], .sl 5 a_3]) :: us.drop (i + 1))] (by rw [hdrop]) ?_
    have hkp : 0 < (U.mks (us.take i) k0).2 := by omega
    have hkb : (U.mks (us.take i) k0).2 + (0 + 1 + 1 + 1 + 1 + U.lfs a_3 : Nat) ≤ 4611686018427387904 := by omega
    have hlen' : ((U.mks (us.take i) k0).1 ++ (.st [.i .i64 a_0, .i .i64 a_1, .st [.i .i64 a_2_0, .i .i64 a_2_1], .sl 5 a_3]) :: us.drop (i + 1)).length = us.length := by rw [← hdrop]; exact hlen
    clear hdrop hsnd hlfa hmid hlen
    generalize (U.mks (us.take i) k0).1 = pre at hn1 hpl hlen' ⊢
    generalize (U.mks (us.take i) k0).2 = kk at hn1 hn2 hkp hkb ⊢
    generalize hpost : us.drop (i + 1) = post at hlen' ⊢
    rw [List.length_append, List.length_cons] at hlen'
    refine V_seq (V_block ?_)
    repeat (first | refine VO_d ?_ | refine VQ_d ?_ | (first | refine VO_q (Q_index_own rfl rfl .ownp rfl TE.h TI.h (by omega) (by rw [List.length_append, List.length_cons]; omega)) rfl ?_ | refine VQ_q (Q_index_own rfl rfl .ownp rfl TE.h TI.h (by omega) (by rw [List.length_append, List.length_cons]; omega)) rfl ?_ | (refine VO_bare rfl rfl rfl rfl ?_; refine VO_q (Q_index_own rfl rfl .ownp rfl TE.h TI.h (by omega) (by rw [List.length_append, List.length_cons]; omega)) rfl ?_) | refine VQ_run rfl rfl rfl rfl (Q_index_own rfl rfl .ownp rfl TE.h TI.h (by omega) (by rw [List.length_append, List.length_cons]; omega)) rfl ?_) | (first | refine VO_nil ?_ | refine VQ_nil ?_) | (first | refine V_seq_region ?_ | refine V_seq (V_seq_region ?_) | refine V_seq_draw tmix (by kernel_rfl) ?_ | refine V_seq (V_seq_draw tmix (by kernel_rfl) ?_) | refine V_region ?_ | refine V_draw tmix (by kernel_rfl) ?_))
    refine VR_storeF (v := .i .i64 (kk)) rfl rfl .ownp hpl rfl rfl TI.h (by repeat constructor) .ownp (by repeat constructor) ?_
    repeat (first | refine VO_d ?_ | refine VQ_d ?_ | (first | refine VO_q (Q_index_own rfl rfl .ownp rfl TE.h TI.h (by omega) (by rw [List.length_append, List.length_cons]; omega)) rfl ?_ | refine VQ_q (Q_index_own rfl rfl .ownp rfl TE.h TI.h (by omega) (by rw [List.length_append, List.length_cons]; omega)) rfl ?_ | (refine VO_bare rfl rfl rfl rfl ?_; refine VO_q (Q_index_own rfl rfl .ownp rfl TE.h TI.h (by omega) (by rw [List.length_append, List.length_cons]; omega)) rfl ?_) | refine VQ_run rfl rfl rfl rfl (Q_index_own rfl rfl .ownp rfl TE.h TI.h (by omega) (by rw [List.length_append, List.length_cons]; omega)) rfl ?_) | (first | refine VO_nil ?_ | refine VQ_nil ?_) | (first | refine V_seq_region ?_ | refine V_seq (V_seq_region ?_) | refine V_seq_draw tmix (by kernel_rfl) ?_ | refine V_seq (V_seq_draw tmix (by kernel_rfl) ?_) | refine V_region ?_ | refine V_draw tmix (by kernel_rfl) ?_))
    refine VR_storeF (v := .i .i64 (kk + 1)) rfl rfl .ownp hpl rfl rfl TI.h (by repeat constructor) .ownp (by repeat constructor) ?_
    repeat (first | refine VO_d ?_ | refine VQ_d ?_ | (first | refine VO_q (Q_index_own rfl rfl .ownp rfl TE.h TI.h (by omega) (by rw [List.length_append, List.length_cons]; omega)) rfl ?_ | refine VQ_q (Q_index_own rfl rfl .ownp rfl TE.h TI.h (by omega) (by rw [List.length_append, List.length_cons]; omega)) rfl ?_ | (refine VO_bare rfl rfl rfl rfl ?_; refine VO_q (Q_index_own rfl rfl .ownp rfl TE.h TI.h (by omega) (by rw [List.length_append, List.length_cons]; omega)) rfl ?_) | refine VQ_run rfl rfl rfl rfl (Q_index_own rfl rfl .ownp rfl TE.h TI.h (by omega) (by rw [List.length_append, List.length_cons]; omega)) rfl ?_) | (first | refine VO_nil ?_ | refine VQ_nil ?_) | (first | refine V_seq_region ?_ | refine V_seq (V_seq_region ?_) | refine V_seq_draw tmix (by kernel_rfl) ?_ | refine V_seq (V_seq_draw tmix (by kernel_rfl) ?_) | refine V_region ?_ | refine V_draw tmix (by kernel_rfl) ?_))
    refine VR_storeF (v := .i .i64 (kk + 1 + 1)) rfl rfl .ownp hpl rfl rfl TI.h (by repeat constructor) .ownp (by repeat constructor) ?_
    repeat (first | refine VO_d ?_ | refine VQ_d ?_ | (first | refine VO_q (Q_index_own rfl rfl .ownp rfl TE.h TI.h (by omega) (by rw [List.length_append, List.length_cons]; omega)) rfl ?_ | refine VQ_q (Q_index_own rfl rfl .ownp rfl TE.h TI.h (by omega) (by rw [List.length_append, List.length_cons]; omega)) rfl ?_ | (refine VO_bare rfl rfl rfl rfl ?_; refine VO_q (Q_index_own rfl rfl .ownp rfl TE.h TI.h (by omega) (by rw [List.length_append, List.length_cons]; omega)) rfl ?_) | refine VQ_run rfl rfl rfl rfl (Q_index_own rfl rfl .ownp rfl TE.h TI.h (by omega) (by rw [List.length_append, List.length_cons]; omega)) rfl ?_) | (first | refine VO_nil ?_ | refine VQ_nil ?_) | (first | refine V_seq_region ?_ | refine V_seq (V_seq_region ?_) | refine V_seq_draw tmix (by kernel_rfl) ?_ | refine V_seq (V_seq_draw tmix (by kernel_rfl) ?_) | refine V_region ?_ | refine V_draw tmix (by kernel_rfl) ?_))
    refine VR_storeF (v := .i .i64 (kk + 1 + 1 + 1)) rfl rfl .ownp hpl rfl rfl TI.h (by repeat constructor) .ownp (by repeat constructor) ?_
    have hm4 := ih0 a_0 a_1 a_2_0 a_2_1 a_3 hmem (kk + 1 + 1 + 1 + 1) (by omega) (by simp only [U.lf]; omega)
    change MSpec _ _ _ _ (.sl 5 (U.mks a_3 (kk + 1 + 1 + 1 + 1)).1) (U.mks a_3 (kk + 1 + 1 + 1 + 1)).2 at hm4
    have hs4 := mks_snd a_3 (kk + 1 + 1 + 1 + 1)
    repeat (first | refine VO_d ?_ | refine VQ_d ?_ | (first | refine VO_q (Q_index_own rfl rfl .ownp rfl TE.h TI.h (by omega) (by rw [List.length_append, List.length_cons]; omega)) rfl ?_ | refine VQ_q (Q_index_own rfl rfl .ownp rfl TE.h TI.h (by omega) (by rw [List.length_append, List.length_cons]; omega)) rfl ?_ | (refine VO_bare rfl rfl rfl rfl ?_; refine VO_q (Q_index_own rfl rfl .ownp rfl TE.h TI.h (by omega) (by rw [List.length_append, List.length_cons]; omega)) rfl ?_) | refine VQ_run rfl rfl rfl rfl (Q_index_own rfl rfl .ownp rfl TE.h TI.h (by omega) (by rw [List.length_append, List.length_cons]; omega)) rfl ?_) | (first | refine VO_nil ?_ | refine VQ_nil ?_) | (first | refine V_seq_region ?_ | refine V_seq (V_seq_region ?_) | refine V_seq_draw tmix (by kernel_rfl) ?_ | refine V_seq (V_seq_draw tmix (by kernel_rfl) ?_) | refine V_region ?_ | refine V_draw tmix (by kernel_rfl) ?_))
    refine VR_markcall hm4 rfl rfl .ownp hpl TI.h (by repeat constructor) rfl rfl (by simp) .ownp (by repeat constructor) rfl rfl rfl (by decide) ?_
    repeat (first | refine VO_d ?_ | refine VQ_d ?_  | (first | refine VO_nil ?_ | refine VQ_nil ?_) | (first | refine V_seq_region ?_ | refine V_seq (V_seq_region ?_) | refine V_seq_draw tmix (by kernel_rfl) ?_ | refine V_seq (V_seq_draw tmix (by kernel_rfl) ?_) | refine V_region ?_ | refine V_draw tmix (by kernel_rfl) ?_))
    refine ⟨i + 1, by omega, by omega, ⟨rfl, ⟨⟨rfl, rfl⟩, ⟨?_, rfl⟩, ⟨rfl, rfl⟩, trivial⟩, ⟨[], ?_⟩, rfl⟩⟩
    · rw [hn2]; rfl
    · rw [hn1, hpost, List.append_assoc]; rfl
  · refine V_exit ?_
    simp only [decide_eq_false_iff_not] at hc2
    rw [hlen] at hc2
    have hkl : i = us.length := by omega
    subst hkl
    show V _ _ _ _ _
    repeat (first | refine VO_d ?_ | refine VQ_d ?_  | (first | refine VO_nil ?_ | refine VQ_nil ?_) | (first | refine V_seq_region ?_ | refine V_seq (V_seq_region ?_) | refine V_seq_draw tmix (by kernel_rfl) ?_ | refine V_seq (V_seq_draw tmix (by kernel_rfl) ?_) | refine V_region ?_ | refine V_draw tmix (by kernel_rfl) ?_))
    refine V_ret ?_
    refine ⟨trivial, ?_, [], ?_⟩
    · show SV.d (.i .i64 (U.mks (us.take us.length) k0).2) = _
      rw [List.take_length]
    · simp only [List.take_length, List.drop_length, List.append_nil]

theorem markEvidence_grp (u : U) : (∀ us, u = .sl 5 us → us.length ≤ big → (∀ x ∈ us, wt (.st 18) x) → PMk 64 u) := by
  refine U.ind (M := fun u => (∀ us, u = .sl 5 us → us.length ≤ big → (∀ x ∈ us, wt (.st 18) x) → PMk 64 u)) (fun u ih => ?_) u
  refine ?_
  · rintro us rfl hl hz
    exact markEvidenceS_step hl hz (fun a_0 a_1 a_2_0 a_2_1 a_3 ha => by obtain ⟨_, _, _, _, hx_a, qa_0, qa_1, qa_2, qa_3⟩ := inv_Evidence (hz _ ha); cases hx_a; obtain ⟨_, _, hx_a_2, qa_2_0, qa_2_1⟩ := inv_InstanceRef qa_2; cases hx_a_2; exact (ih (.sl 5 a_3) (by have := nn_of_mem ha; simp only [U.nn, U.nns] at this ⊢; omega)) a_3 rfl qa_3.1 qa_3.2)
theorem markEvidenceS_all {us : List U} (h : us.length ≤ big ∧ ∀ x ∈ us, wt (.st 18) x) : PMk 64 (.sl 5 us) := (markEvidence_grp (.sl 5 us)) us rfl h.1 h.2
set_option maxHeartbeats 8000000 in
theorem markStringS_step {us : List U} (hl : us.length ≤ big) (hz : ∀ a ∈ us, wt (.str) a) : PMk 98 (.sl 1 us) := by
  intro k0 hk0 hk1
  have hlf : (U.sl 1 us).lf = U.lfs us := rfl
  rw [hlf] at hk1
  rw [big_eq] at hl
  show MSpec _ _ _ _ (.sl 1 (U.mks us k0).1) (U.mks us k0).2
  refine MSpec_intro (fun hv e => [.ownp (hv 0) (e 0) 1 us]) (fun hv e => [.ownp (hv 0) (e 0) 1 (U.mks us k0).1]) Try.func98 rfl (by kernel_rfl) rfl rfl (fun _ _ => .sl) (fun _ _ => .sl) rfl rfl fun A hv e _ => ?_
  repeat (first | refine VO_d ?_ | refine VQ_d ?_  | (first | refine VO_nil ?_ | refine VQ_nil ?_) | (first | refine V_seq_region ?_ | refine V_seq (V_seq_region ?_) | refine V_seq_draw tmix (by kernel_rfl) ?_ | refine V_seq (V_seq_draw tmix (by kernel_rfl) ?_) | refine V_region ?_ | refine V_draw tmix (by kernel_rfl) ?_))
  refine V_block ?_
  refine V_loop (α := Nat)
    (fun i => ⟨[(0, .sl 0 0), (1, .d (.i .i64 (U.mks (us.take i) k0).2)), (5, .d (.i .i64 i))], [.ownp (hv 0) (e 0) 1 ((U.mks (us.take i) k0).1 ++ us.drop i)], Try.f98.ntmps⟩)
    (fun i => i ≤ us.length)
    (fun i => us.length - i) 0 ⟨rfl, ⟨⟨rfl, rfl⟩, ⟨rfl, rfl⟩, ⟨rfl, rfl⟩, trivial⟩, ⟨[], rfl⟩, rfl⟩ (by simp) ?_
  intro i hi
  have hlen : ((U.mks (us.take i) k0).1 ++ us.drop i).length = us.length := by simp [mks_len]; omega
  repeat (first | refine VO_d ?_ | refine VQ_d ?_  | (first | refine VO_nil ?_ | refine VQ_nil ?_) | (first | refine V_seq_region ?_ | refine V_seq (V_seq_region ?_) | refine V_seq_draw tmix (by kernel_rfl) ?_ | refine V_seq (V_seq_draw tmix (by kernel_rfl) ?_) | refine V_region ?_ | refine V_draw tmix (by kernel_rfl) ?_))
  (first | refine V_cond rfl (fun hc2 => ?_) (fun hc2 => ?_) | refine V_seq (V_cond rfl (fun hc2 => ?_) (fun hc2 => ?_)))
  · refine V_skip ?_
    simp only [decide_eq_true_eq] at hc2
    rw [hlen] at hc2
    have hil : i < us.length := by omega
    obtain ⟨a, hget⟩ : ∃ a, us[i]? = some a := ⟨_, List.getElem?_eq_getElem hil⟩
    have hmem := List.mem_of_getElem? hget
    have hdrop := drop_get hget
    obtain ⟨hn1, hn2⟩ := mks_next hget k0
    have hmid := lfs_mid hget
    have hsnd := mks_snd (us.take i) k0
    have hpl : (U.mks (us.take i) k0).1.length = i := by simp [mks_len]; omega
    obtain ⟨a, rfl, _⟩ := inv_str (hz a hmem)
    have hlfa : ((.s a) : U).lf = 0 + 1 := by simp [U.lf, U.lfs]
    rw [hlfa] at hmid
    refine V_cast [.ownp (hv 0) (e 0) 1 ((U.mks (us.take i) k0).1 ++ (.s a) :: us.drop (i + 1))] (by rw [hdrop]) ?_
    have hkp : 0 < (U.mks (us.take i) k0).2 := by omega
    have hkb : (U.mks (us.take i) k0).2 + (0 + 1 : Nat) ≤ 4611686018427387904 := by omega
    have hlen' : ((U.mks (us.take i) k0).1 ++ (.s a) :: us.drop (i + 1)).length = us.length := by rw [← hdrop]; exact hlen
    clear hdrop hsnd hlfa hmid hlen
    generalize (U.mks (us.take i) k0).1 = pre at hn1 hpl hlen' ⊢
    generalize (U.mks (us.take i) k0).2 = kk at hn1 hn2 hkp hkb ⊢
    generalize hpost : us.drop (i + 1) = post at hlen' ⊢
    rw [List.length_append, List.length_cons] at hlen'
    refine V_seq (V_block ?_)
    have ht0 := markText_all (kk) (by omega) (by omega)
    repeat (first | refine VO_d ?_ | refine VQ_d ?_ | (first | refine VO_q (Q_index_own rfl rfl .ownp rfl TE.h TI.h (by omega) (by rw [List.length_append, List.length_cons]; omega)) rfl ?_ | refine VQ_q (Q_index_own rfl rfl .ownp rfl TE.h TI.h (by omega) (by rw [List.length_append, List.length_cons]; omega)) rfl ?_ | (refine VO_bare rfl rfl rfl rfl ?_; refine VO_q (Q_index_own rfl rfl .ownp rfl TE.h TI.h (by omega) (by rw [List.length_append, List.length_cons]; omega)) rfl ?_) | refine VQ_run rfl rfl rfl rfl (Q_index_own rfl rfl .ownp rfl TE.h TI.h (by omega) (by rw [List.length_append, List.length_cons]; omega)) rfl ?_) | (first | refine VO_q (Q_call rfl ht0 (by (repeat (first | exact trivial | exact rfl | exact ⟨_, rfl⟩ | refine And.intro ?_ ?_)); first | done | fail)) rfl ?_ | refine VQ_q (Q_call rfl ht0 (by (repeat (first | exact trivial | exact rfl | exact ⟨_, rfl⟩ | refine And.intro ?_ ?_)); first | done | fail)) rfl ?_ | (refine VO_bare rfl rfl rfl rfl ?_; refine VO_q (Q_call rfl ht0 (by (repeat (first | exact trivial | exact rfl | exact ⟨_, rfl⟩ | refine And.intro ?_ ?_)); first | done | fail)) rfl ?_) | refine VQ_run rfl rfl rfl rfl (Q_call rfl ht0 (by (repeat (first | exact trivial | exact rfl | exact ⟨_, rfl⟩ | refine And.intro ?_ ?_)); first | done | fail)) rfl ?_) | (first | refine VO_nil ?_ | refine VQ_nil ?_) | (first | refine V_seq_region ?_ | refine V_seq (V_seq_region ?_) | refine V_seq_draw tmix (by kernel_rfl) ?_ | refine V_seq (V_seq_draw tmix (by kernel_rfl) ?_) | refine V_region ?_ | refine V_draw tmix (by kernel_rfl) ?_))
    refine VR_storeF (v := .s (txt (kk))) rfl rfl .ownp hpl rfl rfl TI.h (by repeat constructor) .ownp (by repeat constructor) ?_
    repeat (first | refine VO_d ?_ | refine VQ_d ?_  | (first | refine VO_nil ?_ | refine VQ_nil ?_) | (first | refine V_seq_region ?_ | refine V_seq (V_seq_region ?_) | refine V_seq_draw tmix (by kernel_rfl) ?_ | refine V_seq (V_seq_draw tmix (by kernel_rfl) ?_) | refine V_region ?_ | refine V_draw tmix (by kernel_rfl) ?_))
    refine ⟨i + 1, by omega, by omega, ⟨rfl, ⟨⟨rfl, rfl⟩, ⟨?_, rfl⟩, ⟨rfl, rfl⟩, trivial⟩, ⟨[], ?_⟩, rfl⟩⟩
    · rw [hn2]; rfl
    · rw [hn1, hpost, List.append_assoc]; rfl
  · refine V_exit ?_
    simp only [decide_eq_false_iff_not] at hc2
    rw [hlen] at hc2
    have hkl : i = us.length := by omega
    subst hkl
    show V _ _ _ _ _
    repeat (first | refine VO_d ?_ | refine VQ_d ?_  | (first | refine VO_nil ?_ | refine VQ_nil ?_) | (first | refine V_seq_region ?_ | refine V_seq (V_seq_region ?_) | refine V_seq_draw tmix (by kernel_rfl) ?_ | refine V_seq (V_seq_draw tmix (by kernel_rfl) ?_) | refine V_region ?_ | refine V_draw tmix (by kernel_rfl) ?_))
    refine V_ret ?_
    refine ⟨trivial, ?_, [], ?_⟩
    · show SV.d (.i .i64 (U.mks (us.take us.length) k0).2) = _
      rw [List.take_length]
    · simp only [List.take_length, List.drop_length, List.append_nil]

theorem markStringS_all {us : List U} (h : us.length ≤ big ∧ ∀ x ∈ us, wt .str x) : PMk 98 (.sl 1 us) := markStringS_step h.1 h.2
set_option maxHeartbeats 8000000 in
theorem markCoreArmS_step {us : List U} (hl : us.length ≤ big) (hz : ∀ a ∈ us, wt (.st 20) a) (ih0 : ∀ (a_0 : List UInt8) (a_1 : List U) (a_2_0 : Int) (a_2_1 : List UInt8) (a_2_2 : List UInt8) (a_2_3 : Int) (a_2_4_0 : Int) (a_2_4_1 : List UInt8) (a_2_4_2 : List U) (a_2_5 : List U) (a_2_6 : List U) (a_2_7 : List U) (a_2_8 : List U), .st [.s a_0, .sl 1 a_1, .st [.i .i64 a_2_0, .s a_2_1, .s a_2_2, .i .i64 a_2_3, .st [.i .i64 a_2_4_0, .s a_2_4_1, .sl 3 a_2_4_2], .sl 3 a_2_5, .sl 5 a_2_6, .sl 11 a_2_7, .sl 13 a_2_8]] ∈ us → PMk 98 (.sl 1 a_1)) (ih1 : ∀ (a_0 : List UInt8) (a_1 : List U) (a_2_0 : Int) (a_2_1 : List UInt8) (a_2_2 : List UInt8) (a_2_3 : Int) (a_2_4_0 : Int) (a_2_4_1 : List UInt8) (a_2_4_2 : List U) (a_2_5 : List U) (a_2_6 : List U) (a_2_7 : List U) (a_2_8 : List U), .st [.s a_0, .sl 1 a_1, .st [.i .i64 a_2_0, .s a_2_1, .s a_2_2, .i .i64 a_2_3, .st [.i .i64 a_2_4_0, .s a_2_4_1, .sl 3 a_2_4_2], .sl 3 a_2_5, .sl 5 a_2_6, .sl 11 a_2_7, .sl 13 a_2_8]] ∈ us → PMk 43 (.sl 3 a_2_4_2)) (ih2 : ∀ (a_0 : List UInt8) (a_1 : List U) (a_2_0 : Int) (a_2_1 : List UInt8) (a_2_2 : List UInt8) (a_2_3 : Int) (a_2_4_0 : Int) (a_2_4_1 : List UInt8) (a_2_4_2 : List U) (a_2_5 : List U) (a_2_6 : List U) (a_2_7 : List U) (a_2_8 : List U), .st [.s a_0, .sl 1 a_1, .st [.i .i64 a_2_0, .s a_2_1, .s a_2_2, .i .i64 a_2_3, .st [.i .i64 a_2_4_0, .s a_2_4_1, .sl 3 a_2_4_2], .sl 3 a_2_5, .sl 5 a_2_6, .sl 11 a_2_7, .sl 13 a_2_8]] ∈ us → PMk 43 (.sl 3 a_2_5)) (ih3 : ∀ (a_0 : List UInt8) (a_1 : List U) (a_2_0 : Int) (a_2_1 : List UInt8) (a_2_2 : List UInt8) (a_2_3 : Int) (a_2_4_0 : Int) (a_2_4_1 : List UInt8) (a_2_4_2 : List U) (a_2_5 : List U) (a_2_6 : List U) (a_2_7 : List U) (a_2_8 : List U), .st [.s a_0, .sl 1 a_1, .st [.i .i64 a_2_0, .s a_2_1, .s a_2_2, .i .i64 a_2_3, .st [.i .i64 a_2_4_0, .s a_2_4_1, .sl 3 a_2_4_2], .sl 3 a_2_5, .sl 5 a_2_6, .sl 11 a_2_7, .sl 13 a_2_8]] ∈ us → PMk 64 (.sl 5 a_2_6)) (ih4 : ∀ (a_0 : List UInt8) (a_1 : List U) (a_2_0 : Int) (a_2_1 : List UInt8) (a_2_2 : List UInt8) (a_2_3 : Int) (a_2_4_0 : Int) (a_2_4_1 : List UInt8) (a_2_4_2 : List U) (a_2_5 : List U) (a_2_6 : List U) (a_2_7 : List U) (a_2_8 : List U), .st [.s a_0, .sl 1 a_1, .st [.i .i64 a_2_0, .s a_2_1, .s a_2_2, .i .i64 a_2_3, .st [.i .i64 a_2_4_0, .s a_2_4_1, .sl 3 a_2_4_2], .sl 3 a_2_5, .sl 5 a_2_6, .sl 11 a_2_7, .sl 13 a_2_8]] ∈ us → PMk 65 (.sl 11 a_2_7)) (ih5 : ∀ (a_0 : List UInt8) (a_1 : List U) (a_2_0 : Int) (a_2_1 : List UInt8) (a_2_2 : List UInt8) (a_2_3 : Int) (a_2_4_0 : Int) (a_2_4_1 : List UInt8) (a_2_4_2 : List U) (a_2_5 : List U) (a_2_6 : List U) (a_2_7 : List U) (a_2_8 : List U), .st [.s a_0, .sl 1 a_1, .st [.i .i64 a_2_0, .s a_2_1, .s a_2_2, .i .i64 a_2_3, .st [.i .i64 a_2_4_0, .s a_2_4_1, .sl 3 a_2_4_2], .sl 3 a_2_5, .sl 5 a_2_6, .sl 11 a_2_7, .sl 13 a_2_8]] ∈ us → PMk 66 (.sl 13 a_2_8)) : PMk 66 (.sl 13 us) := by
  intro k0 hk0 hk1
  have hlf : (U.sl 13 us).lf = U.lfs us := rfl
  rw [hlf] at hk1
  rw [big_eq] at hl
  show MSpec _ _ _ _ (.sl 13 (U.mks us k0).1) (U.mks us k0).2
  refine MSpec_intro (fun hv e => [.ownp (hv 0) (e 0) 13 us]) (fun hv e => [.ownp (hv 0) (e 0) 13 (U.mks us k0).1]) Try.func66 rfl (by kernel_rfl) rfl rfl (fun _ _ => .sl) (fun _ _ => .sl) rfl rfl fun A hv e _ => ?_
  repeat (first | refine VO_d ?_ | refine VQ_d ?_  | (first | refine VO_nil ?_ | refine VQ_nil ?_) | (first | refine V_seq_region ?_ | refine V_seq (V_seq_region ?_) | refine V_seq_draw tmix (by kernel_rfl) ?_ | refine V_seq (V_seq_draw tmix (by kernel_rfl) ?_) | refine V_region ?_ | refine V_draw tmix (by kernel_rfl) ?_))
  refine V_block ?_
  refine V_loop (α := Nat)
    (fun i => ⟨[(0, .sl 0 0), (1, .d (.i .i64 (U.mks (us.take i) k0).2)), (5, .d (.i .i64 i))], [.ownp (hv 0) (e 0) 13 ((U.mks (us.take i) k0).1 ++ us.drop i)], Try.f66.ntmps⟩)
    (fun i => i ≤ us.length)
    (fun i => us.length - i) 0 ⟨rfl, ⟨⟨rfl, rfl⟩, ⟨rfl, rfl⟩, ⟨rfl, rfl⟩, trivial⟩, ⟨[], rfl⟩, rfl⟩ (by simp) ?_
  intro i hi
  have hlen : ((U.mks (us.take i) k0).1 ++ us.drop i).length = us.length := by simp [mks_len]; omega
  repeat (first | refine VO_d ?_ | refine VQ_d ?_  | (first | refine VO_nil ?_ | refine VQ_nil ?_) | (first | refine V_seq_region ?_ | refine V_seq (V_seq_region ?_) | refine V_seq_draw tmix (by kernel_rfl) ?_ | refine V_seq (V_seq_draw tmix (by kernel_rfl) ?_) | refine V_region ?_ | refine V_draw tmix (by kernel_rfl) ?_))
  (first | refine V_cond rfl (fun hc2 => ?_) (fun hc2 => ?_) | refine V_seq (V_cond rfl (fun hc2 => ?_) (fun hc2 => ?_)))
  · refine V_skip ?_
    simp only [decide_eq_true_eq] at hc2
    rw [hlen] at hc2
    have hil : i < us.length := by omega
    obtain ⟨a, hget⟩ : ∃ a, us[i]? = some a := ⟨_, List.getElem?_eq_getElem hil⟩
    have hmem := List.mem_of_getElem? hget
    have hdrop := drop_get hget
    obtain ⟨hn1, hn2⟩ := mks_next hget k0
    have hmid := lfs_mid hget
    have hsnd := mks_snd (us.take i) k0
    have hpl : (U.mks (us.take i) k0).1.length = i := by simp [mks_len]; omega
    have hwa := hz a hmem
    obtain ⟨a_0, a_1, a_2, rfl, hwa_0, hwa_1, hwa_2⟩ := inv_CoreArm hwa
    obtain ⟨a_2_0, a_2_1, a_2_2, a_2_3, a_2_4, a_2_5, a_2_6, a_2_7, a_2_8, rfl, hwa_2_0, hwa_2_1, hwa_2_2, hwa_2_3, hwa_2_4, hwa_2_5, hwa_2_6, hwa_2_7, hwa_2_8⟩ := inv_Core hwa_2
    obtain ⟨a_2_4_0, a_2_4_1, a_2_4_2, rfl, hwa_2_4_0, hwa_2_4_1, hwa_2_4_2⟩ := inv_Type hwa_2_4
    have hlfa : ((.st [.s a_0, .sl 1 a_1, .st [.i .i64 a_2_0, .s a_2_1, .s a_2_2, .i .i64 a_2_3, .st [.i .i64 a_2_4_0, .s a_2_4_1, .sl 3 a_2_4_2], .sl 3 a_2_5, .sl 5 a_2_6, .sl 11 a_2_7, .sl 13 a_2_8]]) : U).lf = 0 + 1 + U.lfs a_1 + 1 + 1 + 1 + 1 + 1 + 1 + U.lfs a_2_4_2 + U.lfs a_2_5 + U.lfs a_2_6 + U.lfs a_2_7 + U.lfs a_2_8 := by simp [U.lf, U.lfs]; omega
    rw [hlfa] at hmid
    refine V_cast [.ownp (hv 0) (e 0) 13 ((U.mks (us.take i) k0).1 ++ (.st [.s a_0, .sl 1 a_1, .st [.i .i64 a_2_0, .s a_2_1, .s a_2_2, .i .i64 a_2_3, .st [.i .i64 a_2_4_0, .s a_2_4_1, .sl 3 a_2_4_2], .sl 3 a_2_5, .sl 5 a_2_6, .sl 11 a_2_7, .sl 13 a_2_8]]) :: us.drop (i + 1))] (by rw [hdrop]) ?_
    have hkp : 0 < (U.mks (us.take i) k0).2 := by omega
    have hkb : (U.mks (us.take i) k0).2 + (0 + 1 + U.lfs a_1 + 1 + 1 + 1 + 1 + 1 + 1 + U.lfs a_2_4_2 + U.lfs a_2_5 + U.lfs a_2_6 + U.lfs a_2_7 + U.lfs a_2_8 : Nat) ≤ 4611686018427387904 := by omega
    have hlen' : ((U.mks (us.take i) k0).1 ++ (.st [.s a_0, .sl 1 a_1, .st [.i .i64 a_2_0, .s a_2_1, .s a_2_2, .i .i64 a_2_3, .st [.i .i64 a_2_4_0, .s a_2_4_1, .sl 3 a_2_4_2], .sl 3 a_2_5, .sl 5 a_2_6, .sl 11 a_2_7, .sl 13 a_2_8]]) :: us.drop (i + 1)).length = us.length := by rw [← hdrop]; exact hlen
    clear hdrop hsnd hlfa hmid hlen
    generalize (U.mks (us.take i) k0).1 = pre at hn1 hpl hlen' ⊢
    generalize (U.mks (us.take i) k0).2 = kk at hn1 hn2 hkp hkb ⊢
    generalize hpost : us.drop (i + 1) = post at hlen' ⊢
    rw [List.length_append, List.length_cons] at hlen'
    refine V_seq (V_block ?_)
    have ht0 := markText_all (kk) (by omega) (by omega)
    repeat (first | refine VO_d ?_ | refine VQ_d ?_ | (first | refine VO_q (Q_index_own rfl rfl .ownp rfl TE.h TI.h (by omega) (by rw [List.length_append, List.length_cons]; omega)) rfl ?_ | refine VQ_q (Q_index_own rfl rfl .ownp rfl TE.h TI.h (by omega) (by rw [List.length_append, List.length_cons]; omega)) rfl ?_ | (refine VO_bare rfl rfl rfl rfl ?_; refine VO_q (Q_index_own rfl rfl .ownp rfl TE.h TI.h (by omega) (by rw [List.length_append, List.length_cons]; omega)) rfl ?_) | refine VQ_run rfl rfl rfl rfl (Q_index_own rfl rfl .ownp rfl TE.h TI.h (by omega) (by rw [List.length_append, List.length_cons]; omega)) rfl ?_) | (first | refine VO_q (Q_call rfl ht0 (by (repeat (first | exact trivial | exact rfl | exact ⟨_, rfl⟩ | refine And.intro ?_ ?_)); first | done | fail)) rfl ?_ | refine VQ_q (Q_call rfl ht0 (by (repeat (first | exact trivial | exact rfl | exact ⟨_, rfl⟩ | refine And.intro ?_ ?_)); first | done | fail)) rfl ?_ | (refine VO_bare rfl rfl rfl rfl ?_; refine VO_q (Q_call rfl ht0 (by (repeat (first | exact trivial | exact rfl | exact ⟨_, rfl⟩ | refine And.intro ?_ ?_)); first | done | fail)) rfl ?_) | refine VQ_run rfl rfl rfl rfl (Q_call rfl ht0 (by (repeat (first | exact trivial | exact rfl | exact ⟨_, rfl⟩ | refine And.intro ?_ ?_)); first | done | fail)) rfl ?_) | (first | refine VO_nil ?_ | refine VQ_nil ?_) | (first | refine V_seq_region ?_ | refine V_seq (V_seq_region ?_) | refine V_seq_draw tmix (by kernel_rfl) ?_ | refine V_seq (V_seq_draw tmix (by kernel_rfl) ?_) | refine V_region ?_ | refine V_draw tmix (by kernel_rfl) ?_))
    refine VR_storeF (v := .s (txt (kk))) rfl rfl .ownp hpl rfl rfl TI.h (by repeat constructor) .ownp (by repeat constructor) ?_
    have hm1 := ih0 a_0 a_1 a_2_0 a_2_1 a_2_2 a_2_3 a_2_4_0 a_2_4_1 a_2_4_2 a_2_5 a_2_6 a_2_7 a_2_8 hmem (kk + 1) (by omega) (by simp only [U.lf]; omega)
    change MSpec _ _ _ _ (.sl 1 (U.mks a_1 (kk + 1)).1) (U.mks a_1 (kk + 1)).2 at hm1
    have hs1 := mks_snd a_1 (kk + 1)
    repeat (first | refine VO_d ?_ | refine VQ_d ?_ | (first | refine VO_q (Q_index_own rfl rfl .ownp rfl TE.h TI.h (by omega) (by rw [List.length_append, List.length_cons]; omega)) rfl ?_ | refine VQ_q (Q_index_own rfl rfl .ownp rfl TE.h TI.h (by omega) (by rw [List.length_append, List.length_cons]; omega)) rfl ?_ | (refine VO_bare rfl rfl rfl rfl ?_; refine VO_q (Q_index_own rfl rfl .ownp rfl TE.h TI.h (by omega) (by rw [List.length_append, List.length_cons]; omega)) rfl ?_) | refine VQ_run rfl rfl rfl rfl (Q_index_own rfl rfl .ownp rfl TE.h TI.h (by omega) (by rw [List.length_append, List.length_cons]; omega)) rfl ?_) | (first | refine VO_nil ?_ | refine VQ_nil ?_) | (first | refine V_seq_region ?_ | refine V_seq (V_seq_region ?_) | refine V_seq_draw tmix (by kernel_rfl) ?_ | refine V_seq (V_seq_draw tmix (by kernel_rfl) ?_) | refine V_region ?_ | refine V_draw tmix (by kernel_rfl) ?_))
    refine VR_markcall hm1 rfl rfl .ownp hpl TI.h (by repeat constructor) rfl rfl (by simp) .ownp (by repeat constructor) rfl rfl rfl (by decide) ?_
    repeat (first | refine VO_d ?_ | refine VQ_d ?_ | (first | refine VO_q (Q_index_own rfl rfl .ownp rfl TE.h TI.h (by omega) (by rw [List.length_append, List.length_cons]; omega)) rfl ?_ | refine VQ_q (Q_index_own rfl rfl .ownp rfl TE.h TI.h (by omega) (by rw [List.length_append, List.length_cons]; omega)) rfl ?_ | (refine VO_bare rfl rfl rfl rfl ?_; refine VO_q (Q_index_own rfl rfl .ownp rfl TE.h TI.h (by omega) (by rw [List.length_append, List.length_cons]; omega)) rfl ?_) | refine VQ_run rfl rfl rfl rfl (Q_index_own rfl rfl .ownp rfl TE.h TI.h (by omega) (by rw [List.length_append, List.length_cons]; omega)) rfl ?_) | (first | refine VO_nil ?_ | refine VQ_nil ?_) | (first | refine V_seq_region ?_ | refine V_seq (V_seq_region ?_) | refine V_seq_draw tmix (by kernel_rfl) ?_ | refine V_seq (V_seq_draw tmix (by kernel_rfl) ?_) | refine V_region ?_ | refine V_draw tmix (by kernel_rfl) ?_))
    refine VR_storeF (v := .i .i64 ((U.mks a_1 (kk + 1)).2)) rfl rfl .ownp hpl rfl rfl TI.h (by repeat constructor) .ownp (by repeat constructor) ?_
    have ht3 := markText_all ((U.mks a_1 (kk + 1)).2 + 1) (by omega) (by omega)
    repeat (first | refine VO_d ?_ | refine VQ_d ?_ | (first | refine VO_q (Q_index_own rfl rfl .ownp rfl TE.h TI.h (by omega) (by rw [List.length_append, List.length_cons]; omega)) rfl ?_ | refine VQ_q (Q_index_own rfl rfl .ownp rfl TE.h TI.h (by omega) (by rw [List.length_append, List.length_cons]; omega)) rfl ?_ | (refine VO_bare rfl rfl rfl rfl ?_; refine VO_q (Q_index_own rfl rfl .ownp rfl TE.h TI.h (by omega) (by rw [List.length_append, List.length_cons]; omega)) rfl ?_) | refine VQ_run rfl rfl rfl rfl (Q_index_own rfl rfl .ownp rfl TE.h TI.h (by omega) (by rw [List.length_append, List.length_cons]; omega)) rfl ?_) | (first | refine VO_q (Q_call rfl ht3 (by (repeat (first | exact trivial | exact rfl | exact ⟨_, rfl⟩ | refine And.intro ?_ ?_)); first | done | fail)) rfl ?_ | refine VQ_q (Q_call rfl ht3 (by (repeat (first | exact trivial | exact rfl | exact ⟨_, rfl⟩ | refine And.intro ?_ ?_)); first | done | fail)) rfl ?_ | (refine VO_bare rfl rfl rfl rfl ?_; refine VO_q (Q_call rfl ht3 (by (repeat (first | exact trivial | exact rfl | exact ⟨_, rfl⟩ | refine And.intro ?_ ?_)); first | done | fail)) rfl ?_) | refine VQ_run rfl rfl rfl rfl (Q_call rfl ht3 (by (repeat (first | exact trivial | exact rfl | exact ⟨_, rfl⟩ | refine And.intro ?_ ?_)); first | done | fail)) rfl ?_) | (first | refine VO_nil ?_ | refine VQ_nil ?_) | (first | refine V_seq_region ?_ | refine V_seq (V_seq_region ?_) | refine V_seq_draw tmix (by kernel_rfl) ?_ | refine V_seq (V_seq_draw tmix (by kernel_rfl) ?_) | refine V_region ?_ | refine V_draw tmix (by kernel_rfl) ?_))
    refine VR_storeF (v := .s (txt ((U.mks a_1 (kk + 1)).2 + 1))) rfl rfl .ownp hpl rfl rfl TI.h (by repeat constructor) .ownp (by repeat constructor) ?_
    have ht4 := markText_all ((U.mks a_1 (kk + 1)).2 + 1 + 1) (by omega) (by omega)
    repeat (first | refine VO_d ?_ | refine VQ_d ?_ | (first | refine VO_q (Q_index_own rfl rfl .ownp rfl TE.h TI.h (by omega) (by rw [List.length_append, List.length_cons]; omega)) rfl ?_ | refine VQ_q (Q_index_own rfl rfl .ownp rfl TE.h TI.h (by omega) (by rw [List.length_append, List.length_cons]; omega)) rfl ?_ | (refine VO_bare rfl rfl rfl rfl ?_; refine VO_q (Q_index_own rfl rfl .ownp rfl TE.h TI.h (by omega) (by rw [List.length_append, List.length_cons]; omega)) rfl ?_) | refine VQ_run rfl rfl rfl rfl (Q_index_own rfl rfl .ownp rfl TE.h TI.h (by omega) (by rw [List.length_append, List.length_cons]; omega)) rfl ?_) | (first | refine VO_q (Q_call rfl ht4 (by (repeat (first | exact trivial | exact rfl | exact ⟨_, rfl⟩ | refine And.intro ?_ ?_)); first | done | fail)) rfl ?_ | refine VQ_q (Q_call rfl ht4 (by (repeat (first | exact trivial | exact rfl | exact ⟨_, rfl⟩ | refine And.intro ?_ ?_)); first | done | fail)) rfl ?_ | (refine VO_bare rfl rfl rfl rfl ?_; refine VO_q (Q_call rfl ht4 (by (repeat (first | exact trivial | exact rfl | exact ⟨_, rfl⟩ | refine And.intro ?_ ?_)); first | done | fail)) rfl ?_) | refine VQ_run rfl rfl rfl rfl (Q_call rfl ht4 (by (repeat (first | exact trivial | exact rfl | exact ⟨_, rfl⟩ | refine And.intro ?_ ?_)); first | done | fail)) rfl ?_) | (first | refine VO_nil ?_ | refine VQ_nil ?_) | (first | refine V_seq_region ?_ | refine V_seq (V_seq_region ?_) | refine V_seq_draw tmix (by kernel_rfl) ?_ | refine V_seq (V_seq_draw tmix (by kernel_rfl) ?_) | refine V_region ?_ | refine V_draw tmix (by kernel_rfl) ?_))
    refine VR_storeF (v := .s (txt ((U.mks a_1 (kk + 1)).2 + 1 + 1))) rfl rfl .ownp hpl rfl rfl TI.h (by repeat constructor) .ownp (by repeat constructor) ?_
    repeat (first | refine VO_d ?_ | refine VQ_d ?_ | (first | refine VO_q (Q_index_own rfl rfl .ownp rfl TE.h TI.h (by omega) (by rw [List.length_append, List.length_cons]; omega)) rfl ?_ | refine VQ_q (Q_index_own rfl rfl .ownp rfl TE.h TI.h (by omega) (by rw [List.length_append, List.length_cons]; omega)) rfl ?_ | (refine VO_bare rfl rfl rfl rfl ?_; refine VO_q (Q_index_own rfl rfl .ownp rfl TE.h TI.h (by omega) (by rw [List.length_append, List.length_cons]; omega)) rfl ?_) | refine VQ_run rfl rfl rfl rfl (Q_index_own rfl rfl .ownp rfl TE.h TI.h (by omega) (by rw [List.length_append, List.length_cons]; omega)) rfl ?_) | (first | refine VO_nil ?_ | refine VQ_nil ?_) | (first | refine V_seq_region ?_ | refine V_seq (V_seq_region ?_) | refine V_seq_draw tmix (by kernel_rfl) ?_ | refine V_seq (V_seq_draw tmix (by kernel_rfl) ?_) | refine V_region ?_ | refine V_draw tmix (by kernel_rfl) ?_))
    refine VR_storeF (v := .i .i64 ((U.mks a_1 (kk + 1)).2 + 1 + 1 + 1)) rfl rfl .ownp hpl rfl rfl TI.h (by repeat constructor) .ownp (by repeat constructor) ?_
    repeat (first | refine VO_d ?_ | refine VQ_d ?_ | (first | refine VO_q (Q_index_own rfl rfl .ownp rfl TE.h TI.h (by omega) (by rw [List.length_append, List.length_cons]; omega)) rfl ?_ | refine VQ_q (Q_index_own rfl rfl .ownp rfl TE.h TI.h (by omega) (by rw [List.length_append, List.length_cons]; omega)) rfl ?_ | (refine VO_bare rfl rfl rfl rfl ?_; refine VO_q (Q_index_own rfl rfl .ownp rfl TE.h TI.h (by omega) (by rw [List.length_append, List.length_cons]; omega)) rfl ?_) | refine VQ_run rfl rfl rfl rfl (Q_index_own rfl rfl .ownp rfl TE.h TI.h (by omega) (by rw [List.length_append, List.length_cons]; omega)) rfl ?_) | (first | refine VO_nil ?_ | refine VQ_nil ?_) | (first | refine V_seq_region ?_ | refine V_seq (V_seq_region ?_) | refine V_seq_draw tmix (by kernel_rfl) ?_ | refine V_seq (V_seq_draw tmix (by kernel_rfl) ?_) | refine V_region ?_ | refine V_draw tmix (by kernel_rfl) ?_))
    refine VR_storeF (v := .i .i64 ((U.mks a_1 (kk + 1)).2 + 1 + 1 + 1 + 1)) rfl rfl .ownp hpl rfl rfl TI.h (by repeat constructor) .ownp (by repeat constructor) ?_
    have ht7 := markText_all ((U.mks a_1 (kk + 1)).2 + 1 + 1 + 1 + 1 + 1) (by omega) (by omega)
    repeat (first | refine VO_d ?_ | refine VQ_d ?_ | (first | refine VO_q (Q_index_own rfl rfl .ownp rfl TE.h TI.h (by omega) (by rw [List.length_append, List.length_cons]; omega)) rfl ?_ | refine VQ_q (Q_index_own rfl rfl .ownp rfl TE.h TI.h (by omega) (by rw [List.length_append, List.length_cons]; omega)) rfl ?_ | (refine VO_bare rfl rfl rfl rfl ?_; refine VO_q (Q_index_own rfl rfl .ownp rfl TE.h TI.h (by omega) (by rw [List.length_append, List.length_cons]; omega)) rfl ?_) | refine VQ_run rfl rfl rfl rfl (Q_index_own rfl rfl .ownp rfl TE.h TI.h (by omega) (by rw [List.length_append, List.length_cons]; omega)) rfl ?_) | (first | refine VO_q (Q_call rfl ht7 (by (repeat (first | exact trivial | exact rfl | exact ⟨_, rfl⟩ | refine And.intro ?_ ?_)); first | done | fail)) rfl ?_ | refine VQ_q (Q_call rfl ht7 (by (repeat (first | exact trivial | exact rfl | exact ⟨_, rfl⟩ | refine And.intro ?_ ?_)); first | done | fail)) rfl ?_ | (refine VO_bare rfl rfl rfl rfl ?_; refine VO_q (Q_call rfl ht7 (by (repeat (first | exact trivial | exact rfl | exact ⟨_, rfl⟩ | refine And.intro ?_ ?_)); first | done | fail)) rfl ?_) | refine VQ_run rfl rfl rfl rfl (Q_call rfl ht7 (by (repeat (first | exact trivial | exact rfl | exact ⟨_, rfl⟩ | refine And.intro ?_ ?_)); first | done | fail)) rfl ?_) | (first | refine VO_nil ?_ | refine VQ_nil ?_) | (first | refine V_seq_region ?_ | refine V_seq (V_seq_region ?_) | refine V_seq_draw tmix (by kernel_rfl) ?_ | refine V_seq (V_seq_draw tmix (by kernel_rfl) ?_) | refine V_region ?_ | refine V_draw tmix (by kernel_rfl) ?_))
    refine VR_storeF (v := .s (txt ((U.mks a_1 (kk + 1)).2 + 1 + 1 + 1 + 1 + 1))) rfl rfl .ownp hpl rfl rfl TI.h (by repeat constructor) .ownp (by repeat constructor) ?_
    have hm8 := ih1 a_0 a_1 a_2_0 a_2_1 a_2_2 a_2_3 a_2_4_0 a_2_4_1 a_2_4_2 a_2_5 a_2_6 a_2_7 a_2_8 hmem ((U.mks a_1 (kk + 1)).2 + 1 + 1 + 1 + 1 + 1 + 1) (by omega) (by simp only [U.lf]; omega)
    change MSpec _ _ _ _ (.sl 3 (U.mks a_2_4_2 ((U.mks a_1 (kk + 1)).2 + 1 + 1 + 1 + 1 + 1 + 1)).1) (U.mks a_2_4_2 ((U.mks a_1 (kk + 1)).2 + 1 + 1 + 1 + 1 + 1 + 1)).2 at hm8
    have hs8 := mks_snd a_2_4_2 ((U.mks a_1 (kk + 1)).2 + 1 + 1 + 1 + 1 + 1 + 1)
    repeat (first | refine VO_d ?_ | refine VQ_d ?_ | (first | refine VO_q (Q_index_own rfl rfl .ownp rfl TE.h TI.h (by omega) (by rw [List.length_append, List.length_cons]; omega)) rfl ?_ | refine VQ_q (Q_index_own rfl rfl .ownp rfl TE.h TI.h (by omega) (by rw [List.length_append, List.length_cons]; omega)) rfl ?_ | (refine VO_bare rfl rfl rfl rfl ?_; refine VO_q (Q_index_own rfl rfl .ownp rfl TE.h TI.h (by omega) (by rw [List.length_append, List.length_cons]; omega)) rfl ?_) | refine VQ_run rfl rfl rfl rfl (Q_index_own rfl rfl .ownp rfl TE.h TI.h (by omega) (by rw [List.length_append, List.length_cons]; omega)) rfl ?_) | (first | refine VO_nil ?_ | refine VQ_nil ?_) | (first | refine V_seq_region ?_ | refine V_seq (V_seq_region ?_) | refine V_seq_draw tmix (by kernel_rfl) ?_ | refine V_seq (V_seq_draw tmix (by kernel_rfl) ?_) | refine V_region ?_ | refine V_draw tmix (by kernel_rfl) ?_))
    refine VR_markcall hm8 rfl rfl .ownp hpl TI.h (by repeat constructor) rfl rfl (by simp) .ownp (by repeat constructor) rfl rfl rfl (by decide) ?_
    have hm9 := ih2 a_0 a_1 a_2_0 a_2_1 a_2_2 a_2_3 a_2_4_0 a_2_4_1 a_2_4_2 a_2_5 a_2_6 a_2_7 a_2_8 hmem ((U.mks a_2_4_2 ((U.mks a_1 (kk + 1)).2 + 1 + 1 + 1 + 1 + 1 + 1)).2) (by omega) (by simp only [U.lf]; omega)
    change MSpec _ _ _ _ (.sl 3 (U.mks a_2_5 ((U.mks a_2_4_2 ((U.mks a_1 (kk + 1)).2 + 1 + 1 + 1 + 1 + 1 + 1)).2)).1) (U.mks a_2_5 ((U.mks a_2_4_2 ((U.mks a_1 (kk + 1)).2 + 1 + 1 + 1 + 1 + 1 + 1)).2)).2 at hm9
    have hs9 := mks_snd a_2_5 ((U.mks a_2_4_2 ((U.mks a_1 (kk + 1)).2 + 1 + 1 + 1 + 1 + 1 + 1)).2)
    repeat (first | refine VO_d ?_ | refine VQ_d ?_ | (first | refine VO_q (Q_index_own rfl rfl .ownp rfl TE.h TI.h (by omega) (by rw [List.length_append, List.length_cons]; omega)) rfl ?_ | refine VQ_q (Q_index_own rfl rfl .ownp rfl TE.h TI.h (by omega) (by rw [List.length_append, List.length_cons]; omega)) rfl ?_ | (refine VO_bare rfl rfl rfl rfl ?_; refine VO_q (Q_index_own rfl rfl .ownp rfl TE.h TI.h (by omega) (by rw [List.length_append, List.length_cons]; omega)) rfl ?_) | refine VQ_run rfl rfl rfl rfl (Q_index_own rfl rfl .ownp rfl TE.h TI.h (by omega) (by rw [List.length_append, List.length_cons]; omega)) rfl ?_) | (first | refine VO_nil ?_ | refine VQ_nil ?_) | (first | refine V_seq_region ?_ | refine V_seq (V_seq_region ?_) | refine V_seq_draw tmix (by kernel_rfl) ?_ | refine V_seq (V_seq_draw tmix (by kernel_rfl) ?_) | refine V_region ?_ | refine V_draw tmix (by kernel_rfl) ?_))
    refine VR_markcall hm9 rfl rfl .ownp hpl TI.h (by repeat constructor) rfl rfl (by simp) .ownp (by repeat constructor) rfl rfl rfl (by decide) ?_
    have hm10 := ih3 a_0 a_1 a_2_0 a_2_1 a_2_2 a_2_3 a_2_4_0 a_2_4_1 a_2_4_2 a_2_5 a_2_6 a_2_7 a_2_8 hmem ((U.mks a_2_5 ((U.mks a_2_4_2 ((U.mks a_1 (kk + 1)).2 + 1 + 1 + 1 + 1 + 1 + 1)).2)).2) (by omega) (by simp only [U.lf]; omega)
    change MSpec _ _ _ _ (.sl 5 (U.mks a_2_6 ((U.mks a_2_5 ((U.mks a_2_4_2 ((U.mks a_1 (kk + 1)).2 + 1 + 1 + 1 + 1 + 1 + 1)).2)).2)).1) (U.mks a_2_6 ((U.mks a_2_5 ((U.mks a_2_4_2 ((U.mks a_1 (kk + 1)).2 + 1 + 1 + 1 + 1 + 1 + 1)).2)).2)).2 at hm10
    have hs10 := mks_snd a_2_6 ((U.mks a_2_5 ((U.mks a_2_4_2 ((U.mks a_1 (kk + 1)).2 + 1 + 1 + 1 + 1 + 1 + 1)).2)).2)
    repeat (first | refine VO_d ?_ | refine VQ_d ?_ | (first | refine VO_q (Q_index_own rfl rfl .ownp rfl TE.h TI.h (by omega) (by rw [List.length_append, List.length_cons]; omega)) rfl ?_ | refine VQ_q (Q_index_own rfl rfl .ownp rfl TE.h TI.h (by omega) (by rw [List.length_append, List.length_cons]; omega)) rfl ?_ | (refine VO_bare rfl rfl rfl rfl ?_; refine VO_q (Q_index_own rfl rfl .ownp rfl TE.h TI.h (by omega) (by rw [List.length_append, List.length_cons]; omega)) rfl ?_) | refine VQ_run rfl rfl rfl rfl (Q_index_own rfl rfl .ownp rfl TE.h TI.h (by omega) (by rw [List.length_append, List.length_cons]; omega)) rfl ?_) | (first | refine VO_nil ?_ | refine VQ_nil ?_) | (first | refine V_seq_region ?_ | refine V_seq (V_seq_region ?_) | refine V_seq_draw tmix (by kernel_rfl) ?_ | refine V_seq (V_seq_draw tmix (by kernel_rfl) ?_) | refine V_region ?_ | refine V_draw tmix (by kernel_rfl) ?_))
    refine VR_markcall hm10 rfl rfl .ownp hpl TI.h (by repeat constructor) rfl rfl (by simp) .ownp (by repeat constructor) rfl rfl rfl (by decide) ?_
    have hm11 := ih4 a_0 a_1 a_2_0 a_2_1 a_2_2 a_2_3 a_2_4_0 a_2_4_1 a_2_4_2 a_2_5 a_2_6 a_2_7 a_2_8 hmem ((U.mks a_2_6 ((U.mks a_2_5 ((U.mks a_2_4_2 ((U.mks a_1 (kk + 1)).2 + 1 + 1 + 1 + 1 + 1 + 1)).2)).2)).2) (by omega) (by simp only [U.lf]; omega)
    change MSpec _ _ _ _ (.sl 11 (U.mks a_2_7 ((U.mks a_2_6 ((U.mks a_2_5 ((U.mks a_2_4_2 ((U.mks a_1 (kk + 1)).2 + 1 + 1 + 1 + 1 + 1 + 1)).2)).2)).2)).1) (U.mks a_2_7 ((U.mks a_2_6 ((U.mks a_2_5 ((U.mks a_2_4_2 ((U.mks a_1 (kk + 1)).2 + 1 + 1 + 1 + 1 + 1 + 1)).2)).2)).2)).2 at hm11
    have hs11 := mks_snd a_2_7 ((U.mks a_2_6 ((U.mks a_2_5 ((U.mks a_2_4_2 ((U.mks a_1 (kk + 1)).2 + 1 + 1 + 1 + 1 + 1 + 1)).2)).2)).2)
    repeat (first | refine VO_d ?_ | refine VQ_d ?_ | (first | refine VO_q (Q_index_own rfl rfl .ownp rfl TE.h TI.h (by omega) (by rw [List.length_append, List.length_cons]; omega)) rfl ?_ | refine VQ_q (Q_index_own rfl rfl .ownp rfl TE.h TI.h (by omega) (by rw [List.length_append, List.length_cons]; omega)) rfl ?_ | (refine VO_bare rfl rfl rfl rfl ?_; refine VO_q (Q_index_own rfl rfl .ownp rfl TE.h TI.h (by omega) (by rw [List.length_append, List.length_cons]; omega)) rfl ?_) | refine VQ_run rfl rfl rfl rfl (Q_index_own rfl rfl .ownp rfl TE.h TI.h (by omega) (by rw [List.length_append, List.length_cons]; omega)) rfl ?_) | (first | refine VO_nil ?_ | refine VQ_nil ?_) | (first | refine V_seq_region ?_ | refine V_seq (V_seq_region ?_) | refine V_seq_draw tmix (by kernel_rfl) ?_ | refine V_seq (V_seq_draw tmix (by kernel_rfl) ?_) | refine V_region ?_ | refine V_draw tmix (by kernel_rfl) ?_))
    refine VR_markcall hm11 rfl rfl .ownp hpl TI.h (by repeat constructor) rfl rfl (by simp) .ownp (by repeat constructor) rfl rfl rfl (by decide) ?_
    have hm12 := ih5 a_0 a_1 a_2_0 a_2_1 a_2_2 a_2_3 a_2_4_0 a_2_4_1 a_2_4_2 a_2_5 a_2_6 a_2_7 a_2_8 hmem ((U.mks a_2_7 ((U.mks a_2_6 ((U.mks a_2_5 ((U.mks a_2_4_2 ((U.mks a_1 (kk + 1)).2 + 1 + 1 + 1 + 1 + 1 + 1)).2)).2)).2)).2) (by omega) (by simp only [U.lf]; omega)
    change MSpec _ _ _ _ (.sl 13 (U.mks a_2_8 ((U.mks a_2_7 ((U.mks a_2_6 ((U.mks a_2_5 ((U.mks a_2_4_2 ((U.mks a_1 (kk + 1)).2 + 1 + 1 + 1 + 1 + 1 + 1)).2)).2)).2)).2)).1) (U.mks a_2_8 ((U.mks a_2_7 ((U.mks a_2_6 ((U.mks a_2_5 ((U.mks a_2_4_2 ((U.mks a_1 (kk + 1)).2 + 1 + 1 + 1 + 1 + 1 + 1)).2)).2)).2)).2)).2 at hm12
    have hs12 := mks_snd a_2_8 ((U.mks a_2_7 ((U.mks a_2_6 ((U.mks a_2_5 ((U.mks a_2_4_2 ((U.mks a_1 (kk + 1)).2 + 1 + 1 + 1 + 1 + 1 + 1)).2)).2)).2)).2)
    repeat (first | refine VO_d ?_ | refine VQ_d ?_ | (first | refine VO_q (Q_index_own rfl rfl .ownp rfl TE.h TI.h (by omega) (by rw [List.length_append, List.length_cons]; omega)) rfl ?_ | refine VQ_q (Q_index_own rfl rfl .ownp rfl TE.h TI.h (by omega) (by rw [List.length_append, List.length_cons]; omega)) rfl ?_ | (refine VO_bare rfl rfl rfl rfl ?_; refine VO_q (Q_index_own rfl rfl .ownp rfl TE.h TI.h (by omega) (by rw [List.length_append, List.length_cons]; omega)) rfl ?_) | refine VQ_run rfl rfl rfl rfl (Q_index_own rfl rfl .ownp rfl TE.h TI.h (by omega) (by rw [List.length_append, List.length_cons]; omega)) rfl ?_) | (first | refine VO_nil ?_ | refine VQ_nil ?_) | (first | refine V_seq_region ?_ | refine V_seq (V_seq_region ?_) | refine V_seq_draw tmix (by kernel_rfl) ?_ | refine V_seq (V_seq_draw tmix (by kernel_rfl) ?_) | refine V_region ?_ | refine V_draw tmix (by kernel_rfl) ?_))
    refine VR_markcall hm12 rfl rfl .ownp hpl TI.h (by repeat constructor) rfl rfl (by simp) .ownp (by repeat constructor) rfl rfl rfl (by decide) ?_
    repeat (first | refine VO_d ?_ | refine VQ_d ?_  | (first | refine VO_nil ?_ | refine VQ_nil ?_) | (first | refine V_seq_region ?_ | refine V_seq (V_seq_region ?_) | refine V_seq_draw tmix (by kernel_rfl) ?_ | refine V_seq (V_seq_draw tmix (by kernel_rfl) ?_) | refine V_region ?_ | refine V_draw tmix (by kernel_rfl) ?_))
    refine ⟨i + 1, by omega, by omega, ⟨rfl, ⟨⟨rfl, rfl⟩, ⟨?_, rfl⟩, ⟨rfl, rfl⟩, trivial⟩, ⟨[], ?_⟩, rfl⟩⟩
    · rw [hn2]; rfl
    · rw [hn1, hpost, List.append_assoc]; rfl
  · refine V_exit ?_
    simp only [decide_eq_false_iff_not] at hc2
    rw [hlen] at hc2
    have hkl : i = us.length := by omega
    subst hkl
    show V _ _ _ _ _
    repeat (first | refine VO_d ?_ | refine VQ_d ?_  | (first | refine VO_nil ?_ | refine VQ_nil ?_) | (first | refine V_seq_region ?_ | refine V_seq (V_seq_region ?_) | refine V_seq_draw tmix (by kernel_rfl) ?_ | refine V_seq (V_seq_draw tmix (by kernel_rfl) ?_) | refine V_region ?_ | refine V_draw tmix (by kernel_rfl) ?_))
    refine V_ret ?_
    refine ⟨trivial, ?_, [], ?_⟩
    · show SV.d (.i .i64 (U.mks (us.take us.length) k0).2) = _
      rw [List.take_length]
    · simp only [List.take_length, List.drop_length, List.append_nil]

set_option maxHeartbeats 8000000 in
theorem markCoreS_step {us : List U} (hl : us.length ≤ big) (hz : ∀ a ∈ us, wt (.st 21) a) (ih0 : ∀ (a_0 : Int) (a_1 : List UInt8) (a_2 : List UInt8) (a_3 : Int) (a_4_0 : Int) (a_4_1 : List UInt8) (a_4_2 : List U) (a_5 : List U) (a_6 : List U) (a_7 : List U) (a_8 : List U), .st [.i .i64 a_0, .s a_1, .s a_2, .i .i64 a_3, .st [.i .i64 a_4_0, .s a_4_1, .sl 3 a_4_2], .sl 3 a_5, .sl 5 a_6, .sl 11 a_7, .sl 13 a_8] ∈ us → PMk 43 (.sl 3 a_4_2)) (ih1 : ∀ (a_0 : Int) (a_1 : List UInt8) (a_2 : List UInt8) (a_3 : Int) (a_4_0 : Int) (a_4_1 : List UInt8) (a_4_2 : List U) (a_5 : List U) (a_6 : List U) (a_7 : List U) (a_8 : List U), .st [.i .i64 a_0, .s a_1, .s a_2, .i .i64 a_3, .st [.i .i64 a_4_0, .s a_4_1, .sl 3 a_4_2], .sl 3 a_5, .sl 5 a_6, .sl 11 a_7, .sl 13 a_8] ∈ us → PMk 43 (.sl 3 a_5)) (ih2 : ∀ (a_0 : Int) (a_1 : List UInt8) (a_2 : List UInt8) (a_3 : Int) (a_4_0 : Int) (a_4_1 : List UInt8) (a_4_2 : List U) (a_5 : List U) (a_6 : List U) (a_7 : List U) (a_8 : List U), .st [.i .i64 a_0, .s a_1, .s a_2, .i .i64 a_3, .st [.i .i64 a_4_0, .s a_4_1, .sl 3 a_4_2], .sl 3 a_5, .sl 5 a_6, .sl 11 a_7, .sl 13 a_8] ∈ us → PMk 64 (.sl 5 a_6)) (ih3 : ∀ (a_0 : Int) (a_1 : List UInt8) (a_2 : List UInt8) (a_3 : Int) (a_4_0 : Int) (a_4_1 : List UInt8) (a_4_2 : List U) (a_5 : List U) (a_6 : List U) (a_7 : List U) (a_8 : List U), .st [.i .i64 a_0, .s a_1, .s a_2, .i .i64 a_3, .st [.i .i64 a_4_0, .s a_4_1, .sl 3 a_4_2], .sl 3 a_5, .sl 5 a_6, .sl 11 a_7, .sl 13 a_8] ∈ us → PMk 65 (.sl 11 a_7)) (ih4 : ∀ (a_0 : Int) (a_1 : List UInt8) (a_2 : List UInt8) (a_3 : Int) (a_4_0 : Int) (a_4_1 : List UInt8) (a_4_2 : List U) (a_5 : List U) (a_6 : List U) (a_7 : List U) (a_8 : List U), .st [.i .i64 a_0, .s a_1, .s a_2, .i .i64 a_3, .st [.i .i64 a_4_0, .s a_4_1, .sl 3 a_4_2], .sl 3 a_5, .sl 5 a_6, .sl 11 a_7, .sl 13 a_8] ∈ us → PMk 66 (.sl 13 a_8)) : PMk 65 (.sl 11 us) := by
  intro k0 hk0 hk1
  have hlf : (U.sl 11 us).lf = U.lfs us := rfl
  rw [hlf] at hk1
  rw [big_eq] at hl
  show MSpec _ _ _ _ (.sl 11 (U.mks us k0).1) (U.mks us k0).2
  refine MSpec_intro (fun hv e => [.ownp (hv 0) (e 0) 11 us]) (fun hv e => [.ownp (hv 0) (e 0) 11 (U.mks us k0).1]) Try.func65 rfl (by kernel_rfl) rfl rfl (fun _ _ => .sl) (fun _ _ => .sl) rfl rfl fun A hv e _ => ?_
  repeat (first | refine VO_d ?_ | refine VQ_d ?_  | (first | refine VO_nil ?_ | refine VQ_nil ?_) | (first | refine V_seq_region ?_ | refine V_seq (V_seq_region ?_) | refine V_seq_draw tmix (by kernel_rfl) ?_ | refine V_seq (V_seq_draw tmix (by kernel_rfl) ?_) | refine V_region ?_ | refine V_draw tmix (by kernel_rfl) ?_))
  refine V_block ?_
  refine V_loop (α := Nat)
    (fun i => ⟨[(0, .sl 0 0), (1, .d (.i .i64 (U.mks (us.take i) k0).2)), (5, .d (.i .i64 i))], [.ownp (hv 0) (e 0) 11 ((U.mks (us.take i) k0).1 ++ us.drop i)], Try.f65.ntmps⟩)
    (fun i => i ≤ us.length)
    (fun i => us.length - i) 0 ⟨rfl, ⟨⟨rfl, rfl⟩, ⟨rfl, rfl⟩, ⟨rfl, rfl⟩, trivial⟩, ⟨[], rfl⟩, rfl⟩ (by simp) ?_
  intro i hi
  have hlen : ((U.mks (us.take i) k0).1 ++ us.drop i).length = us.length := by simp [mks_len]; omega
  repeat (first | refine VO_d ?_ | refine VQ_d ?_  | (first | refine VO_nil ?_ | refine VQ_nil ?_) | (first | refine V_seq_region ?_ | refine V_seq (V_seq_region ?_) | refine V_seq_draw tmix (by kernel_rfl) ?_ | refine V_seq (V_seq_draw tmix (by kernel_rfl) ?_) | refine V_region ?_ | refine V_draw tmix (by kernel_rfl) ?_))
  (first | refine V_cond rfl (fun hc2 => ?_) (fun hc2 => ?_) | refine V_seq (V_cond rfl (fun hc2 => ?_) (fun hc2 => ?_)))
  · refine V_skip ?_
    simp only [decide_eq_true_eq] at hc2
    rw [hlen] at hc2
    have hil : i < us.length := by omega
    obtain ⟨a, hget⟩ : ∃ a, us[i]? = some a := ⟨_, List.getElem?_eq_getElem hil⟩
    have hmem := List.mem_of_getElem? hget
    have hdrop := drop_get hget
    obtain ⟨hn1, hn2⟩ := mks_next hget k0
    have hmid := lfs_mid hget
    have hsnd := mks_snd (us.take i) k0
    have hpl : (U.mks (us.take i) k0).1.length = i := by simp [mks_len]; omega
    have hwa := hz a hmem
    obtain ⟨a_0, a_1, a_2, a_3, a_4, a_5, a_6, a_7, a_8, rfl, hwa_0, hwa_1, hwa_2, hwa_3, hwa_4, hwa_5, hwa_6, hwa_7, hwa_8⟩ := inv_Core hwa
    obtain ⟨a_4_0, a_4_1, a_4_2, rfl, hwa_4_0, hwa_4_1, hwa_4_2⟩ := inv_Type hwa_4
    have hlfa : ((.st [.i .i64 a_0, .s a_1, .s a_2, .i .i64 a_3, .st [.i .i64 a_4_0, .s a_4_1, .sl 3 a_4_2], .sl 3 a_5, .sl 5 a_6, .sl 11 a_7, .sl 13 a_8]) : U).lf = 0 + 1 + 1 + 1 + 1 + 1 + 1 + U.lfs a_4_2 + U.lfs a_5 + U.lfs a_6 + U.lfs a_7 + U.lfs a_8 := by simp [U.lf, U.lfs]; omega
    rw [hlfa] at hmid
    refine V_cast [.ownp (hv 0) (e 0) 11 ((U.mks (us.take i) k0).1 ++ (.st [.i .i64 a_0, .s a_1, .s a_2, .i .i64 a_3, .st [.i .i64 a_4_0, .s a_4_1, .sl 3 a_4_2], .sl 3 a_5, .sl 5 a_6, .sl 11 a_7, .sl 13 a_8]) :: us.drop (i + 1))] (by rw [hdrop]) ?_
    have hkp : 0 < (U.mks (us.take i) k0).2 := by omega
    have hkb : (U.mks (us.take i) k0).2 + (0 + 1 + 1 + 1 + 1 + 1 + 1 + U.lfs a_4_2 + U.lfs a_5 + U.lfs a_6 + U.lfs a_7 + U.lfs a_8 : Nat) ≤ 4611686018427387904 := by omega
    have hlen' : ((U.mks (us.take i) k0).1 ++ (.st [.i .i64 a_0, .s a_1, .s a_2, .i .i64 a_3, .st [.i .i64 a_4_0, .s a_4_1, .sl 3 a_4_2], .sl 3 a_5, .sl 5 a_6, .sl 11 a_7, .sl 13 a_8]) :: us.drop (i + 1)).length = us.length := by rw [← hdrop]; exact hlen
    clear hdrop hsnd hlfa hmid hlen
    generalize (U.mks (us.take i) k0).1 = pre at hn1 hpl hlen' ⊢
    generalize (U.mks (us.take i) k0).2 = kk at hn1 hn2 hkp hkb ⊢
    generalize hpost : us.drop (i + 1) = post at hlen' ⊢
    rw [List.length_append, List.length_cons] at hlen'
    refine V_seq (V_block ?_)
    repeat (first | refine VO_d ?_ | refine VQ_d ?_ | (first | refine VO_q (Q_index_own rfl rfl .ownp rfl TE.h TI.h (by omega) (by rw [List.length_append, List.length_cons]; omega)) rfl ?_ | refine VQ_q (Q_index_own rfl rfl .ownp rfl TE.h TI.h (by omega) (by rw [List.length_append, List.length_cons]; omega)) rfl ?_ | (refine VO_bare rfl rfl rfl rfl ?_; refine VO_q (Q_index_own rfl rfl .ownp rfl TE.h TI.h (by omega) (by rw [List.length_append, List.length_cons]; omega)) rfl ?_) | refine VQ_run rfl rfl rfl rfl (Q_index_own rfl rfl .ownp rfl TE.h TI.h (by omega) (by rw [List.length_append, List.length_cons]; omega)) rfl ?_) | (first | refine VO_nil ?_ | refine VQ_nil ?_) | (first | refine V_seq_region ?_ | refine V_seq (V_seq_region ?_) | refine V_seq_draw tmix (by kernel_rfl) ?_ | refine V_seq (V_seq_draw tmix (by kernel_rfl) ?_) | refine V_region ?_ | refine V_draw tmix (by kernel_rfl) ?_))
    refine VR_storeF (v := .i .i64 (kk)) rfl rfl .ownp hpl rfl rfl TI.h (by repeat constructor) .ownp (by repeat constructor) ?_
    have ht1 := markText_all (kk + 1) (by omega) (by omega)
    repeat (first | refine VO_d ?_ | refine VQ_d ?_ | (first | refine VO_q (Q_index_own rfl rfl .ownp rfl TE.h TI.h (by omega) (by rw [List.length_append, List.length_cons]; omega)) rfl ?_ | refine VQ_q (Q_index_own rfl rfl .ownp rfl TE.h TI.h (by omega) (by rw [List.length_append, List.length_cons]; omega)) rfl ?_ | (refine VO_bare rfl rfl rfl rfl ?_; refine VO_q (Q_index_own rfl rfl .ownp rfl TE.h TI.h (by omega) (by rw [List.length_append, List.length_cons]; omega)) rfl ?_) | refine VQ_run rfl rfl rfl rfl (Q_index_own rfl rfl .ownp rfl TE.h TI.h (by omega) (by rw [List.length_append, List.length_cons]; omega)) rfl ?_) | (first | refine VO_q (Q_call rfl ht1 (by (repeat (first | exact trivial | exact rfl | exact ⟨_, rfl⟩ | refine And.intro ?_ ?_)); first | done | fail)) rfl ?_ | refine VQ_q (Q_call rfl ht1 (by (repeat (first | exact trivial | exact rfl | exact ⟨_, rfl⟩ | refine And.intro ?_ ?_)); first | done | fail)) rfl ?_ | (refine VO_bare rfl rfl rfl rfl ?_; refine VO_q (Q_call rfl ht1 (by (repeat (first | exact trivial | exact rfl | exact ⟨_, rfl⟩ | refine And.intro ?_ ?_)); first | done | fail)) rfl ?_) | refine VQ_run rfl rfl rfl rfl (Q_call rfl ht1 (by (repeat (first | exact trivial | exact rfl | exact ⟨_, rfl⟩ | refine And.intro ?_ ?_)); first | done | fail)) rfl ?_) | (first | refine VO_nil ?_ | refine VQ_nil ?_) | (first | refine V_seq_region ?_ | refine V_seq (V_seq_region ?_) | refine V_seq_draw tmix (by kernel_rfl) ?_ | refine V_seq (V_seq_draw tmix (by kernel_rfl) ?_) | refine V_region ?_ | refine V_draw tmix (by kernel_rfl) ?_))
    refine VR_storeF (v := .s (txt (kk + 1))) rfl rfl .ownp hpl rfl rfl TI.h (by repeat constructor) .ownp (by repeat constructor) ?_
    have ht2 := markText_all (kk + 1 + 1) (by omega) (by omega)
    repeat (first | refine VO_d ?_ | refine VQ_d ?_ | (first | refine VO_q (Q_index_own rfl rfl .ownp rfl TE.h TI.h (by omega) (by rw [List.length_append, List.length_cons]; omega)) rfl ?_ | refine VQ_q (Q_index_own rfl rfl .ownp rfl TE.h TI.h (by omega) (by rw [List.length_append, List.length_cons]; omega)) rfl ?_ | (refine VO_bare rfl rfl rfl rfl ?_; refine VO_q (Q_index_own rfl rfl .ownp rfl TE.h TI.h (by omega) (by rw [List.length_append, List.length_cons]; omega)) rfl ?_) | refine VQ_run rfl rfl rfl rfl (Q_index_own rfl rfl .ownp rfl TE.h TI.h (by omega) (by rw [List.length_append, List.length_cons]; omega)) rfl ?_) | (first | refine VO_q (Q_call rfl ht2 (by (repeat (first | exact trivial | exact rfl | exact ⟨_, rfl⟩ | refine And.intro ?_ ?_)); first | done | fail)) rfl ?_ | refine VQ_q (Q_call rfl ht2 (by (repeat (first | exact trivial | exact rfl | exact ⟨_, rfl⟩ | refine And.intro ?_ ?_)); first | done | fail)) rfl ?_ | (refine VO_bare rfl rfl rfl rfl ?_; refine VO_q (Q_call rfl ht2 (by (repeat (first | exact trivial | exact rfl | exact ⟨_, rfl⟩ | refine And.intro ?_ ?_)); first | done | fail)) rfl ?_) | refine VQ_run rfl rfl rfl rfl (Q_call rfl ht2 (by (repeat (first | exact trivial | exact rfl | exact ⟨_, rfl⟩ | refine And.intro ?_ ?_)); first | done | fail)) rfl ?_) | (first | refine VO_nil ?_ | refine VQ_nil ?_) | (first | refine V_seq_region ?_ | refine V_seq (V_seq_region ?_) | refine V_seq_draw tmix (by kernel_rfl) ?_ | refine V_seq (V_seq_draw tmix (by kernel_rfl) ?_) | refine V_region ?_ | refine V_draw tmix (by kernel_rfl) ?_))
    refine VR_storeF (v := .s (txt (kk + 1 + 1))) rfl rfl .ownp hpl rfl rfl TI.h (by repeat constructor) .ownp (by repeat constructor) ?_
    repeat (first | refine VO_d ?_ | refine VQ_d ?_ | (first | refine VO_q (Q_index_own rfl rfl .ownp rfl TE.h TI.h (by omega) (by rw [List.length_append, List.length_cons]; omega)) rfl ?_ | refine VQ_q (Q_index_own rfl rfl .ownp rfl TE.h TI.h (by omega) (by rw [List.length_append, List.length_cons]; omega)) rfl ?_ | (refine VO_bare rfl rfl rfl rfl ?_; refine VO_q (Q_index_own rfl rfl .ownp rfl TE.h TI.h (by omega) (by rw [List.length_append, List.length_cons]; omega)) rfl ?_) | refine VQ_run rfl rfl rfl rfl (Q_index_own rfl rfl .ownp rfl TE.h TI.h (by omega) (by rw [List.length_append, List.length_cons]; omega)) rfl ?_) | (first | refine VO_nil ?_ | refine VQ_nil ?_) | (first | refine V_seq_region ?_ | refine V_seq (V_seq_region ?_) | refine V_seq_draw tmix (by kernel_rfl) ?_ | refine V_seq (V_seq_draw tmix (by kernel_rfl) ?_) | refine V_region ?_ | refine V_draw tmix (by kernel_rfl) ?_))
    refine VR_storeF (v := .i .i64 (kk + 1 + 1 + 1)) rfl rfl .ownp hpl rfl rfl TI.h (by repeat constructor) .ownp (by repeat constructor) ?_
    repeat (first | refine VO_d ?_ | refine VQ_d ?_ | (first | refine VO_q (Q_index_own rfl rfl .ownp rfl TE.h TI.h (by omega) (by rw [List.length_append, List.length_cons]; omega)) rfl ?_ | refine VQ_q (Q_index_own rfl rfl .ownp rfl TE.h TI.h (by omega) (by rw [List.length_append, List.length_cons]; omega)) rfl ?_ | (refine VO_bare rfl rfl rfl rfl ?_; refine VO_q (Q_index_own rfl rfl .ownp rfl TE.h TI.h (by omega) (by rw [List.length_append, List.length_cons]; omega)) rfl ?_) | refine VQ_run rfl rfl rfl rfl (Q_index_own rfl rfl .ownp rfl TE.h TI.h (by omega) (by rw [List.length_append, List.length_cons]; omega)) rfl ?_) | (first | refine VO_nil ?_ | refine VQ_nil ?_) | (first | refine V_seq_region ?_ | refine V_seq (V_seq_region ?_) | refine V_seq_draw tmix (by kernel_rfl) ?_ | refine V_seq (V_seq_draw tmix (by kernel_rfl) ?_) | refine V_region ?_ | refine V_draw tmix (by kernel_rfl) ?_))
    refine VR_storeF (v := .i .i64 (kk + 1 + 1 + 1 + 1)) rfl rfl .ownp hpl rfl rfl TI.h (by repeat constructor) .ownp (by repeat constructor) ?_
    have ht5 := markText_all (kk + 1 + 1 + 1 + 1 + 1) (by omega) (by omega)
    repeat (first | refine VO_d ?_ | refine VQ_d ?_ | (first | refine VO_q (Q_index_own rfl rfl .ownp rfl TE.h TI.h (by omega) (by rw [List.length_append, List.length_cons]; omega)) rfl ?_ | refine VQ_q (Q_index_own rfl rfl .ownp rfl TE.h TI.h (by omega) (by rw [List.length_append, List.length_cons]; omega)) rfl ?_ | (refine VO_bare rfl rfl rfl rfl ?_; refine VO_q (Q_index_own rfl rfl .ownp rfl TE.h TI.h (by omega) (by rw [List.length_append, List.length_cons]; omega)) rfl ?_) | refine VQ_run rfl rfl rfl rfl (Q_index_own rfl rfl .ownp rfl TE.h TI.h (by omega) (by rw [List.length_append, List.length_cons]; omega)) rfl ?_) | (first | refine VO_q (Q_call rfl ht5 (by (repeat (first | exact trivial | exact rfl | exact ⟨_, rfl⟩ | refine And.intro ?_ ?_)); first | done | fail)) rfl ?_ | refine VQ_q (Q_call rfl ht5 (by (repeat (first | exact trivial | exact rfl | exact ⟨_, rfl⟩ | refine And.intro ?_ ?_)); first | done | fail)) rfl ?_ | (refine VO_bare rfl rfl rfl rfl ?_; refine VO_q (Q_call rfl ht5 (by (repeat (first | exact trivial | exact rfl | exact ⟨_, rfl⟩ | refine And.intro ?_ ?_)); first | done | fail)) rfl ?_) | refine VQ_run rfl rfl rfl rfl (Q_call rfl ht5 (by (repeat (first | exact trivial | exact rfl | exact ⟨_, rfl⟩ | refine And.intro ?_ ?_)); first | done | fail)) rfl ?_) | (first | refine VO_nil ?_ | refine VQ_nil ?_) | (first | refine V_seq_region ?_ | refine V_seq (V_seq_region ?_) | refine V_seq_draw tmix (by kernel_rfl) ?_ | refine V_seq (V_seq_draw tmix (by kernel_rfl) ?_) | refine V_region ?_ | refine V_draw tmix (by kernel_rfl) ?_))
    refine VR_storeF (v := .s (txt (kk + 1 + 1 + 1 + 1 + 1))) rfl rfl .ownp hpl rfl rfl TI.h (by repeat constructor) .ownp (by repeat constructor) ?_
    have hm6 := ih0 a_0 a_1 a_2 a_3 a_4_0 a_4_1 a_4_2 a_5 a_6 a_7 a_8 hmem (kk + 1 + 1 + 1 + 1 + 1 + 1) (by omega) (by simp only [U.lf]; omega)
    change MSpec _ _ _ _ (.sl 3 (U.mks a_4_2 (kk + 1 + 1 + 1 + 1 + 1 + 1)).1) (U.mks a_4_2 (kk + 1 + 1 + 1 + 1 + 1 + 1)).2 at hm6
    have hs6 := mks_snd a_4_2 (kk + 1 + 1 + 1 + 1 + 1 + 1)
    repeat (first | refine VO_d ?_ | refine VQ_d ?_ | (first | refine VO_q (Q_index_own rfl rfl .ownp rfl TE.h TI.h (by omega) (by rw [List.length_append, List.length_cons]; omega)) rfl ?_ | refine VQ_q (Q_index_own rfl rfl .ownp rfl TE.h TI.h (by omega) (by rw [List.length_append, List.length_cons]; omega)) rfl ?_ | (refine VO_bare rfl rfl rfl rfl ?_; refine VO_q (Q_index_own rfl rfl .ownp rfl TE.h TI.h (by omega) (by rw [List.length_append, List.length_cons]; omega)) rfl ?_) | refine VQ_run rfl rfl rfl rfl (Q_index_own rfl rfl .ownp rfl TE.h TI.h (by omega) (by rw [List.length_append, List.length_cons]; omega)) rfl ?_) | (first | refine VO_nil ?_ | refine VQ_nil ?_) | (first | refine V_seq_region ?_ | refine V_seq (V_seq_region ?_) | refine V_seq_draw tmix (by kernel_rfl) ?_ | refine V_seq (V_seq_draw tmix (by kernel_rfl) ?_) | refine V_region ?_ | refine V_draw tmix (by kernel_rfl) ?_))
    refine VR_markcall hm6 rfl rfl .ownp hpl TI.h (by repeat constructor) rfl rfl (by simp) .ownp (by repeat constructor) rfl rfl rfl (by decide) ?_
    have hm7 := ih1 a_0 a_1 a_2 a_3 a_4_0 a_4_1 a_4_2 a_5 a_6 a_7 a_8 hmem ((U.mks a_4_2 (kk + 1 + 1 + 1 + 1 + 1 + 1)).2) (by omega) (by simp only [U.lf]; omega)
    change MSpec _ _ _ _ (.sl 3 (U.mks a_5 ((U.mks a_4_2 (kk + 1 + 1 + 1 + 1 + 1 + 1)).2)).1) (U.mks a_5 ((U.mks a_4_2 (kk + 1 + 1 + 1 + 1 + 1 + 1)).2)).2 at hm7
    have hs7 := mks_snd a_5 ((U.mks a_4_2 (kk + 1 + 1 + 1 + 1 + 1 + 1)).2)
    repeat (first | refine VO_d ?_ | refine VQ_d ?_ | (first | refine VO_q (Q_index_own rfl rfl .ownp rfl TE.h TI.h (by omega) (by rw [List.length_append, List.length_cons]; omega)) rfl ?_ | refine VQ_q (Q_index_own rfl rfl .ownp rfl TE.h TI.h (by omega) (by rw [List.length_append, List.length_cons]; omega)) rfl ?_ | (refine VO_bare rfl rfl rfl rfl ?_; refine VO_q (Q_index_own rfl rfl .ownp rfl TE.h TI.h (by omega) (by rw [List.length_append, List.length_cons]; omega)) rfl ?_) | refine VQ_run rfl rfl rfl rfl (Q_index_own rfl rfl .ownp rfl TE.h TI.h (by omega) (by rw [List.length_append, List.length_cons]; omega)) rfl ?_) | (first | refine VO_nil ?_ | refine VQ_nil ?_) | (first | refine V_seq_region ?_ | refine V_seq (V_seq_region ?_) | refine V_seq_draw tmix (by kernel_rfl) ?_ | refine V_seq (V_seq_draw tmix (by kernel_rfl) ?_) | refine V_region ?_ | refine V_draw tmix (by kernel_rfl) ?_))
    refine VR_markcall hm7 rfl rfl .ownp hpl TI.h (by repeat constructor) rfl rfl (by simp) .ownp (by repeat constructor) rfl rfl rfl (by decide) ?_
    have hm8 := ih2 a_0 a_1 a_2 a_3 a_4_0 a_4_1 a_4_2 a_5 a_6 a_7 a_8 hmem ((U.mks a_5 ((U.mks a_4_2 (kk + 1 + 1 + 1 + 1 + 1 + 1)).2)).2) (by omega) (by simp only [U.lf]; omega)
    change MSpec _ _ _ _ (.sl 5 (U.mks a_6 ((U.mks a_5 ((U.mks a_4_2 (kk + 1 + 1 + 1 + 1 + 1 + 1)).2)).2)).1) (U.mks a_6 ((U.mks a_5 ((U.mks a_4_2 (kk + 1 + 1 + 1 + 1 + 1 + 1)).2)).2)).2 at hm8
    have hs8 := mks_snd a_6 ((U.mks a_5 ((U.mks a_4_2 (kk + 1 + 1 + 1 + 1 + 1 + 1)).2)).2)
    repeat (first | refine VO_d ?_ | refine VQ_d ?_ | (first | refine VO_q (Q_index_own rfl rfl .ownp rfl TE.h TI.h (by omega) (by rw [List.length_append, List.length_cons]; omega)) rfl ?_ | refine VQ_q (Q_index_own rfl rfl .ownp rfl TE.h TI.h (by omega) (by rw [List.length_append, List.length_cons]; omega)) rfl ?_ | (refine VO_bare rfl rfl rfl rfl ?_; refine VO_q (Q_index_own rfl rfl .ownp rfl TE.h TI.h (by omega) (by rw [List.length_append, List.length_cons]; omega)) rfl ?_) | refine VQ_run rfl rfl rfl rfl (Q_index_own rfl rfl .ownp rfl TE.h TI.h (by omega) (by rw [List.length_append, List.length_cons]; omega)) rfl ?_) | (first | refine VO_nil ?_ | refine VQ_nil ?_) | (first | refine V_seq_region ?_ | refine V_seq (V_seq_region ?_) | refine V_seq_draw tmix (by kernel_rfl) ?_ | refine V_seq (V_seq_draw tmix (by kernel_rfl) ?_) | refine V_region ?_ | refine V_draw tmix (by kernel_rfl) ?_))
    refine VR_markcall hm8 rfl rfl .ownp hpl TI.h (by repeat constructor) rfl rfl (by simp) .ownp (by repeat constructor) rfl rfl rfl (by decide) ?_
    have hm9 := ih3 a_0 a_1 a_2 a_3 a_4_0 a_4_1 a_4_2 a_5 a_6 a_7 a_8 hmem ((U.mks a_6 ((U.mks a_5 ((U.mks a_4_2 (kk + 1 + 1 + 1 + 1 + 1 + 1)).2)).2)).2) (by omega) (by simp only [U.lf]; omega)
    change MSpec _ _ _ _ (.sl 11 (U.mks a_7 ((U.mks a_6 ((U.mks a_5 ((U.mks a_4_2 (kk + 1 + 1 + 1 + 1 + 1 + 1)).2)).2)).2)).1) (U.mks a_7 ((U.mks a_6 ((U.mks a_5 ((U.mks a_4_2 (kk + 1 + 1 + 1 + 1 + 1 + 1)).2)).2)).2)).2 at hm9
    have hs9 := mks_snd a_7 ((U.mks a_6 ((U.mks a_5 ((U.mks a_4_2 (kk + 1 + 1 + 1 + 1 + 1 + 1)).2)).2)).2)
    repeat (first | refine VO_d ?_ | refine VQ_d ?_ | (first | refine VO_q (Q_index_own rfl rfl .ownp rfl TE.h TI.h (by omega) (by rw [List.length_append, List.length_cons]; omega)) rfl ?_ | refine VQ_q (Q_index_own rfl rfl .ownp rfl TE.h TI.h (by omega) (by rw [List.length_append, List.length_cons]; omega)) rfl ?_ | (refine VO_bare rfl rfl rfl rfl ?_; refine VO_q (Q_index_own rfl rfl .ownp rfl TE.h TI.h (by omega) (by rw [List.length_append, List.length_cons]; omega)) rfl ?_) | refine VQ_run rfl rfl rfl rfl (Q_index_own rfl rfl .ownp rfl TE.h TI.h (by omega) (by rw [List.length_append, List.length_cons]; omega)) rfl ?_) | (first | refine VO_nil ?_ | refine VQ_nil ?_) | (first | refine V_seq_region ?_ | refine V_seq (V_seq_region ?_) | refine V_seq_draw tmix (by kernel_rfl) ?_ | refine V_seq (V_seq_draw tmix (by kernel_rfl) ?_) | refine V_region ?_ | refine V_draw tmix (by kernel_rfl) ?_))
    refine VR_markcall hm9 rfl rfl .ownp hpl TI.h (by repeat constructor) rfl rfl (by simp) .ownp (by repeat constructor) rfl rfl rfl (by decide) ?_
    have hm10 := ih4 a_0 a_1 a_2 a_3 a_4_0 a_4_1 a_4_2 a_5 a_6 a_7 a_8 hmem ((U.mks a_7 ((U.mks a_6 ((U.mks a_5 ((U.mks a_4_2 (kk + 1 + 1 + 1 + 1 + 1 + 1)).2)).2)).2)).2) (by omega) (by simp only [U.lf]; omega)
    change MSpec _ _ _ _ (.sl 13 (U.mks a_8 ((U.mks a_7 ((U.mks a_6 ((U.mks a_5 ((U.mks a_4_2 (kk + 1 + 1 + 1 + 1 + 1 + 1)).2)).2)).2)).2)).1) (U.mks a_8 ((U.mks a_7 ((U.mks a_6 ((U.mks a_5 ((U.mks a_4_2 (kk + 1 + 1 + 1 + 1 + 1 + 1)).2)).2)).2)).2)).2 at hm10
    have hs10 := mks_snd a_8 ((U.mks a_7 ((U.mks a_6 ((U.mks a_5 ((U.mks a_4_2 (kk + 1 + 1 + 1 + 1 + 1 + 1)).2)).2)).2)).2)
    repeat (first | refine VO_d ?_ | refine VQ_d ?_ | (first | refine VO_q (Q_index_own rfl rfl .ownp rfl TE.h TI.h (by omega) (by rw [List.length_append, List.length_cons]; omega)) rfl ?_ | refine VQ_q (Q_index_own rfl rfl .ownp rfl TE.h TI.h (by omega) (by rw [List.length_append, List.length_cons]; omega)) rfl ?_ | (refine VO_bare rfl rfl rfl rfl ?_; refine VO_q (Q_index_own rfl rfl .ownp rfl TE.h TI.h (by omega) (by rw [List.length_append, List.length_cons]; omega)) rfl ?_) | refine VQ_run rfl rfl rfl rfl (Q_index_own rfl rfl .ownp rfl TE.h TI.h (by omega) (by rw [List.length_append, List.length_cons]; omega)) rfl ?_) | (first | refine VO_nil ?_ | refine VQ_nil ?_) | (first | refine V_seq_region ?_ | refine V_seq (V_seq_region ?_) | refine V_seq_draw tmix (by kernel_rfl) ?_ | refine V_seq (V_seq_draw tmix (by kernel_rfl) ?_) | refine V_region ?_ | refine V_draw tmix (by kernel_rfl) ?_))
    refine VR_markcall hm10 rfl rfl .ownp hpl TI.h (by repeat constructor) rfl rfl (by simp) .ownp (by repeat constructor) rfl rfl rfl (by decide) ?_
    repeat (first | refine VO_d ?_ | refine VQ_d ?_  | (first | refine VO_nil ?_ | refine VQ_nil ?_) | (first | refine V_seq_region ?_ | refine V_seq (V_seq_region ?_) | refine V_seq_draw tmix (by kernel_rfl) ?_ | refine V_seq (V_seq_draw tmix (by kernel_rfl) ?_) | refine V_region ?_ | refine V_draw tmix (by kernel_rfl) ?_))
    refine ⟨i + 1, by omega, by omega, ⟨rfl, ⟨⟨rfl, rfl⟩, ⟨?_, rfl⟩, ⟨rfl, rfl⟩, trivial⟩, ⟨[], ?_⟩, rfl⟩⟩
    · rw [hn2]; rfl
    · rw [hn1, hpost, List.append_assoc]; rfl
  · refine V_exit ?_
    simp only [decide_eq_false_iff_not] at hc2
    rw [hlen] at hc2
    have hkl : i = us.length := by omega
    subst hkl
    show V _ _ _ _ _
    repeat (first | refine VO_d ?_ | refine VQ_d ?_  | (first | refine VO_nil ?_ | refine VQ_nil ?_) | (first | refine V_seq_region ?_ | refine V_seq (V_seq_region ?_) | refine V_seq_draw tmix (by kernel_rfl) ?_ | refine V_seq (V_seq_draw tmix (by kernel_rfl) ?_) | refine V_region ?_ | refine V_draw tmix (by kernel_rfl) ?_))
    refine V_ret ?_
    refine ⟨trivial, ?_, [], ?_⟩
    · show SV.d (.i .i64 (U.mks (us.take us.length) k0).2) = _
      rw [List.take_length]
    · simp only [List.take_length, List.drop_length, List.append_nil]

set_option maxHeartbeats 8000000 in
theorem markCore_step {f0 : Int} {f1 : List UInt8} {f2 : List UInt8} {f3 : Int} {f4 : U} {f5 : List U} {f6 : List U} {f7 : List U} {f8 : List U} (g4 : wt (.st 1) f4) (h4 : PMk 14 f4) (h5 : PMk 43 (.sl 3 f5)) (h6 : PMk 64 (.sl 5 f6)) (h7 : PMk 65 (.sl 11 f7)) (h8 : PMk 66 (.sl 13 f8)) : PMk 25 (.st [.i .i64 f0, .s f1, .s f2, .i .i64 f3, f4, .sl 3 f5, .sl 5 f6, .sl 11 f7, .sl 13 f8]) := by
  intro k0 hk0 hk1
  obtain ⟨f4_0, f4_1, f4_2, rfl, g4_0, g4_1, g4_2⟩ := inv_Type g4
  have hlf : ((.st [.i .i64 f0, .s f1, .s f2, .i .i64 f3, .st [.i .i64 f4_0, .s f4_1, .sl 3 f4_2], .sl 3 f5, .sl 5 f6, .sl 11 f7, .sl 13 f8]) : U).lf = 0 + 1 + 1 + 1 + 1 + 1 + 1 + U.lfs f4_2 + U.lfs f5 + U.lfs f6 + U.lfs f7 + U.lfs f8 := by simp [U.lf, U.lfs]; omega
  rw [hlf] at hk1
  show MSpec _ _ _ _ (.st [.i .i64 f0, .s f1, .s f2, .i .i64 f3, .st [.i .i64 f4_0, .s f4_1, .sl 3 (U.mks f4_2 (k0)).1], .sl 3 (U.mks f5 ((U.mks f4_2 (k0)).2)).1, .sl 5 (U.mks f6 ((U.mks f5 ((U.mks f4_2 (k0)).2)).2)).1, .sl 11 (U.mks f7 ((U.mks f6 ((U.mks f5 ((U.mks f4_2 (k0)).2)).2)).2)).1, .sl 13 (U.mks f8 ((U.mks f7 ((U.mks f6 ((U.mks f5 ((U.mks f4_2 (k0)).2)).2)).2)).2)).1]) ((U.mks f8 ((U.mks f7 ((U.mks f6 ((U.mks f5 ((U.mks f4_2 (k0)).2)).2)).2)).2)).2)
  refine MSpec_intro (fun hv e => [.ownp (hv 0) (e 0) 3 f4_2, .ownp (hv 1) (e 1) 3 f5, .ownp (hv 2) (e 2) 5 f6, .ownp (hv 3) (e 3) 11 f7, .ownp (hv 4) (e 4) 13 f8]) (fun hv e => [.ownp (hv 0) (e 0) 3 (U.mks f4_2 (k0)).1, .ownp (hv 1) (e 1) 3 (U.mks f5 ((U.mks f4_2 (k0)).2)).1, .ownp (hv 2) (e 2) 5 (U.mks f6 ((U.mks f5 ((U.mks f4_2 (k0)).2)).2)).1, .ownp (hv 3) (e 3) 11 (U.mks f7 ((U.mks f6 ((U.mks f5 ((U.mks f4_2 (k0)).2)).2)).2)).1, .ownp (hv 4) (e 4) 13 (U.mks f8 ((U.mks f7 ((U.mks f6 ((U.mks f5 ((U.mks f4_2 (k0)).2)).2)).2)).2)).1]) Try.func25 rfl (by kernel_rfl) rfl rfl (fun _ _ => by repeat constructor) (fun _ _ => by repeat constructor) rfl rfl fun A hv e _ => ?_
  have hm4 := h4 (k0) (by omega) (by simp only [U.lf, U.lfs]; omega)
  have hs_f4_2 := mks_snd f4_2 (k0)
  repeat (first | refine VO_d ?_ | refine VQ_d ?_  | (first | refine VO_nil ?_ | refine VQ_nil ?_) | (first | refine V_seq_region ?_ | refine V_seq (V_seq_region ?_) | refine V_seq_draw tmix (by kernel_rfl) ?_ | refine V_seq (V_seq_draw tmix (by kernel_rfl) ?_) | refine V_region ?_ | refine V_draw tmix (by kernel_rfl) ?_))
  refine VO_callM rfl hm4 rfl rfl (by repeat (first | exact rfl | constructor)) rfl (by repeat constructor) rfl ?_
  have hm5 := h5 ((U.mks f4_2 (k0)).2) (by omega) (by simp only [U.lf, U.lfs]; omega)
  have hs_f5 := mks_snd f5 ((U.mks f4_2 (k0)).2)
  repeat (first | refine VO_d ?_ | refine VQ_d ?_  | (first | refine VO_nil ?_ | refine VQ_nil ?_) | (first | refine V_seq_region ?_ | refine V_seq (V_seq_region ?_) | refine V_seq_draw tmix (by kernel_rfl) ?_ | refine V_seq (V_seq_draw tmix (by kernel_rfl) ?_) | refine V_region ?_ | refine V_draw tmix (by kernel_rfl) ?_))
  refine VO_callM rfl hm5 rfl rfl (by repeat (first | exact rfl | constructor)) rfl (by repeat constructor) rfl ?_
  have hm6 := h6 ((U.mks f5 ((U.mks f4_2 (k0)).2)).2) (by omega) (by simp only [U.lf, U.lfs]; omega)
  have hs_f6 := mks_snd f6 ((U.mks f5 ((U.mks f4_2 (k0)).2)).2)
  repeat (first | refine VO_d ?_ | refine VQ_d ?_  | (first | refine VO_nil ?_ | refine VQ_nil ?_) | (first | refine V_seq_region ?_ | refine V_seq (V_seq_region ?_) | refine V_seq_draw tmix (by kernel_rfl) ?_ | refine V_seq (V_seq_draw tmix (by kernel_rfl) ?_) | refine V_region ?_ | refine V_draw tmix (by kernel_rfl) ?_))
  refine VO_callM rfl hm6 rfl rfl (by repeat (first | exact rfl | constructor)) rfl (by repeat constructor) rfl ?_
  have hm7 := h7 ((U.mks f6 ((U.mks f5 ((U.mks f4_2 (k0)).2)).2)).2) (by omega) (by simp only [U.lf, U.lfs]; omega)
  have hs_f7 := mks_snd f7 ((U.mks f6 ((U.mks f5 ((U.mks f4_2 (k0)).2)).2)).2)
  repeat (first | refine VO_d ?_ | refine VQ_d ?_  | (first | refine VO_nil ?_ | refine VQ_nil ?_) | (first | refine V_seq_region ?_ | refine V_seq (V_seq_region ?_) | refine V_seq_draw tmix (by kernel_rfl) ?_ | refine V_seq (V_seq_draw tmix (by kernel_rfl) ?_) | refine V_region ?_ | refine V_draw tmix (by kernel_rfl) ?_))
  refine VO_callM rfl hm7 rfl rfl (by repeat (first | exact rfl | constructor)) rfl (by repeat constructor) rfl ?_
  have hm8 := h8 ((U.mks f7 ((U.mks f6 ((U.mks f5 ((U.mks f4_2 (k0)).2)).2)).2)).2) (by omega) (by simp only [U.lf, U.lfs]; omega)
  have hs_f8 := mks_snd f8 ((U.mks f7 ((U.mks f6 ((U.mks f5 ((U.mks f4_2 (k0)).2)).2)).2)).2)
  repeat (first | refine VO_d ?_ | refine VQ_d ?_  | (first | refine VO_nil ?_ | refine VQ_nil ?_) | (first | refine V_seq_region ?_ | refine V_seq (V_seq_region ?_) | refine V_seq_draw tmix (by kernel_rfl) ?_ | refine V_seq (V_seq_draw tmix (by kernel_rfl) ?_) | refine V_region ?_ | refine V_draw tmix (by kernel_rfl) ?_))
  refine VO_callM rfl hm8 rfl rfl (by repeat (first | exact rfl | constructor)) rfl (by repeat constructor) rfl ?_
  repeat (first | refine VO_d ?_ | refine VQ_d ?_  | (first | refine VO_nil ?_ | refine VQ_nil ?_) | (first | refine V_seq_region ?_ | refine V_seq (V_seq_region ?_) | refine V_seq_draw tmix (by kernel_rfl) ?_ | refine V_seq (V_seq_draw tmix (by kernel_rfl) ?_) | refine V_region ?_ | refine V_draw tmix (by kernel_rfl) ?_))
  refine V_ret ?_
  exact ⟨trivial, rfl, _, rfl⟩

theorem markCoreArmCore_grp (u : U) : (∀ us, u = .sl 13 us → us.length ≤ big → (∀ x ∈ us, wt (.st 20) x) → PMk 66 u) ∧ (∀ us, u = .sl 11 us → us.length ≤ big → (∀ x ∈ us, wt (.st 21) x) → PMk 65 u) := by
  refine U.ind (M := fun u => (∀ us, u = .sl 13 us → us.length ≤ big → (∀ x ∈ us, wt (.st 20) x) → PMk 66 u) ∧ (∀ us, u = .sl 11 us → us.length ≤ big → (∀ x ∈ us, wt (.st 21) x) → PMk 65 u)) (fun u ih => ?_) u
  refine ⟨?_, ?_⟩
  · rintro us rfl hl hz
    exact markCoreArmS_step hl hz (fun a_0 a_1 a_2_0 a_2_1 a_2_2 a_2_3 a_2_4_0 a_2_4_1 a_2_4_2 a_2_5 a_2_6 a_2_7 a_2_8 ha => by obtain ⟨_, _, _, hx_a, qa_0, qa_1, qa_2⟩ := inv_CoreArm (hz _ ha); cases hx_a; obtain ⟨_, _, _, _, _, _, _, _, _, hx_a_2, qa_2_0, qa_2_1, qa_2_2, qa_2_3, qa_2_4, qa_2_5, qa_2_6, qa_2_7, qa_2_8⟩ := inv_Core qa_2; cases hx_a_2; obtain ⟨_, _, _, hx_a_2_4, qa_2_4_0, qa_2_4_1, qa_2_4_2⟩ := inv_Type qa_2_4; cases hx_a_2_4; exact markStringS_all qa_1) (fun a_0 a_1 a_2_0 a_2_1 a_2_2 a_2_3 a_2_4_0 a_2_4_1 a_2_4_2 a_2_5 a_2_6 a_2_7 a_2_8 ha => by obtain ⟨_, _, _, hx_a, qa_0, qa_1, qa_2⟩ := inv_CoreArm (hz _ ha); cases hx_a; obtain ⟨_, _, _, _, _, _, _, _, _, hx_a_2, qa_2_0, qa_2_1, qa_2_2, qa_2_3, qa_2_4, qa_2_5, qa_2_6, qa_2_7, qa_2_8⟩ := inv_Core qa_2; cases hx_a_2; obtain ⟨_, _, _, hx_a_2_4, qa_2_4_0, qa_2_4_1, qa_2_4_2⟩ := inv_Type qa_2_4; cases hx_a_2_4; exact markTypeS_all qa_2_4_2) (fun a_0 a_1 a_2_0 a_2_1 a_2_2 a_2_3 a_2_4_0 a_2_4_1 a_2_4_2 a_2_5 a_2_6 a_2_7 a_2_8 ha => by obtain ⟨_, _, _, hx_a, qa_0, qa_1, qa_2⟩ := inv_CoreArm (hz _ ha); cases hx_a; obtain ⟨_, _, _, _, _, _, _, _, _, hx_a_2, qa_2_0, qa_2_1, qa_2_2, qa_2_3, qa_2_4, qa_2_5, qa_2_6, qa_2_7, qa_2_8⟩ := inv_Core qa_2; cases hx_a_2; obtain ⟨_, _, _, hx_a_2_4, qa_2_4_0, qa_2_4_1, qa_2_4_2⟩ := inv_Type qa_2_4; cases hx_a_2_4; exact markTypeS_all qa_2_5) (fun a_0 a_1 a_2_0 a_2_1 a_2_2 a_2_3 a_2_4_0 a_2_4_1 a_2_4_2 a_2_5 a_2_6 a_2_7 a_2_8 ha => by obtain ⟨_, _, _, hx_a, qa_0, qa_1, qa_2⟩ := inv_CoreArm (hz _ ha); cases hx_a; obtain ⟨_, _, _, _, _, _, _, _, _, hx_a_2, qa_2_0, qa_2_1, qa_2_2, qa_2_3, qa_2_4, qa_2_5, qa_2_6, qa_2_7, qa_2_8⟩ := inv_Core qa_2; cases hx_a_2; obtain ⟨_, _, _, hx_a_2_4, qa_2_4_0, qa_2_4_1, qa_2_4_2⟩ := inv_Type qa_2_4; cases hx_a_2_4; exact markEvidenceS_all qa_2_6) (fun a_0 a_1 a_2_0 a_2_1 a_2_2 a_2_3 a_2_4_0 a_2_4_1 a_2_4_2 a_2_5 a_2_6 a_2_7 a_2_8 ha => by obtain ⟨_, _, _, hx_a, qa_0, qa_1, qa_2⟩ := inv_CoreArm (hz _ ha); cases hx_a; obtain ⟨_, _, _, _, _, _, _, _, _, hx_a_2, qa_2_0, qa_2_1, qa_2_2, qa_2_3, qa_2_4, qa_2_5, qa_2_6, qa_2_7, qa_2_8⟩ := inv_Core qa_2; cases hx_a_2; obtain ⟨_, _, _, hx_a_2_4, qa_2_4_0, qa_2_4_1, qa_2_4_2⟩ := inv_Type qa_2_4; cases hx_a_2_4; exact (ih (.sl 11 a_2_7) (by have := nn_of_mem ha; simp only [U.nn, U.nns] at this ⊢; omega)).2 a_2_7 rfl qa_2_7.1 qa_2_7.2) (fun a_0 a_1 a_2_0 a_2_1 a_2_2 a_2_3 a_2_4_0 a_2_4_1 a_2_4_2 a_2_5 a_2_6 a_2_7 a_2_8 ha => by obtain ⟨_, _, _, hx_a, qa_0, qa_1, qa_2⟩ := inv_CoreArm (hz _ ha); cases hx_a; obtain ⟨_, _, _, _, _, _, _, _, _, hx_a_2, qa_2_0, qa_2_1, qa_2_2, qa_2_3, qa_2_4, qa_2_5, qa_2_6, qa_2_7, qa_2_8⟩ := inv_Core qa_2; cases hx_a_2; obtain ⟨_, _, _, hx_a_2_4, qa_2_4_0, qa_2_4_1, qa_2_4_2⟩ := inv_Type qa_2_4; cases hx_a_2_4; exact (ih (.sl 13 a_2_8) (by have := nn_of_mem ha; simp only [U.nn, U.nns] at this ⊢; omega)).1 a_2_8 rfl qa_2_8.1 qa_2_8.2)
  · rintro us rfl hl hz
    exact markCoreS_step hl hz (fun a_0 a_1 a_2 a_3 a_4_0 a_4_1 a_4_2 a_5 a_6 a_7 a_8 ha => by obtain ⟨_, _, _, _, _, _, _, _, _, hx_a, qa_0, qa_1, qa_2, qa_3, qa_4, qa_5, qa_6, qa_7, qa_8⟩ := inv_Core (hz _ ha); cases hx_a; obtain ⟨_, _, _, hx_a_4, qa_4_0, qa_4_1, qa_4_2⟩ := inv_Type qa_4; cases hx_a_4; exact markTypeS_all qa_4_2) (fun a_0 a_1 a_2 a_3 a_4_0 a_4_1 a_4_2 a_5 a_6 a_7 a_8 ha => by obtain ⟨_, _, _, _, _, _, _, _, _, hx_a, qa_0, qa_1, qa_2, qa_3, qa_4, qa_5, qa_6, qa_7, qa_8⟩ := inv_Core (hz _ ha); cases hx_a; obtain ⟨_, _, _, hx_a_4, qa_4_0, qa_4_1, qa_4_2⟩ := inv_Type qa_4; cases hx_a_4; exact markTypeS_all qa_5) (fun a_0 a_1 a_2 a_3 a_4_0 a_4_1 a_4_2 a_5 a_6 a_7 a_8 ha => by obtain ⟨_, _, _, _, _, _, _, _, _, hx_a, qa_0, qa_1, qa_2, qa_3, qa_4, qa_5, qa_6, qa_7, qa_8⟩ := inv_Core (hz _ ha); cases hx_a; obtain ⟨_, _, _, hx_a_4, qa_4_0, qa_4_1, qa_4_2⟩ := inv_Type qa_4; cases hx_a_4; exact markEvidenceS_all qa_6) (fun a_0 a_1 a_2 a_3 a_4_0 a_4_1 a_4_2 a_5 a_6 a_7 a_8 ha => by obtain ⟨_, _, _, _, _, _, _, _, _, hx_a, qa_0, qa_1, qa_2, qa_3, qa_4, qa_5, qa_6, qa_7, qa_8⟩ := inv_Core (hz _ ha); cases hx_a; obtain ⟨_, _, _, hx_a_4, qa_4_0, qa_4_1, qa_4_2⟩ := inv_Type qa_4; cases hx_a_4; exact (ih (.sl 11 a_7) (by have := nn_of_mem ha; simp only [U.nn, U.nns] at this ⊢; omega)).2 a_7 rfl qa_7.1 qa_7.2) (fun a_0 a_1 a_2 a_3 a_4_0 a_4_1 a_4_2 a_5 a_6 a_7 a_8 ha => by obtain ⟨_, _, _, _, _, _, _, _, _, hx_a, qa_0, qa_1, qa_2, qa_3, qa_4, qa_5, qa_6, qa_7, qa_8⟩ := inv_Core (hz _ ha); cases hx_a; obtain ⟨_, _, _, hx_a_4, qa_4_0, qa_4_1, qa_4_2⟩ := inv_Type qa_4; cases hx_a_4; exact (ih (.sl 13 a_8) (by have := nn_of_mem ha; simp only [U.nn, U.nns] at this ⊢; omega)).1 a_8 rfl qa_8.1 qa_8.2)
theorem markCoreArmS_all {us : List U} (h : us.length ≤ big ∧ ∀ x ∈ us, wt (.st 20) x) : PMk 66 (.sl 13 us) := (markCoreArmCore_grp (.sl 13 us)).1 us rfl h.1 h.2
theorem markCoreS_all {us : List U} (h : us.length ≤ big ∧ ∀ x ∈ us, wt (.st 21) x) : PMk 65 (.sl 11 us) := (markCoreArmCore_grp (.sl 11 us)).2 us rfl h.1 h.2
theorem markCore_all {u : U} (h : wt (.st 21) u) : PMk 25 u := by
  obtain ⟨f0, f1, f2, f3, f4, f5, f6, f7, f8, rfl, p0, p1, p2, p3, p4, p5, p6, p7, p8⟩ := inv_Core h
  exact markCore_step p4 (markType_all p4) (markTypeS_all p5) (markEvidenceS_all p6) (markCoreS_all p7) (markCoreArmS_all p8)

set_option maxHeartbeats 8000000 in
theorem heldTypeS_step {us : List U} (hl : us.length ≤ big) (hz : ∀ a ∈ us, wt (.st 1) a) (ih0 : ∀ (a_0 : Int) (a_1 : List UInt8) (a_2 : List U), .st [.i .i64 a_0, .s a_1, .sl 3 a_2] ∈ us → PHe 44 (.sl 3 a_2)) : PHe 44 (.sl 3 us) := by
  intro k0 hk0 hk1
  have hlf : (U.sl 3 us).lf = U.lfs us := rfl
  rw [hlf] at hk1
  rw [big_eq] at hl
  show SpecP _ _ [.d (.sl 3 (U.mks us k0).1), .d (.i .i64 k0)] [.i .i64 (U.mks us k0).2]
  obtain ⟨ms, hms⟩ : ∃ ms, (U.mks us k0).1 = ms := ⟨_, rfl⟩
  have hml : ms.length = us.length := by rw [← hms, mks_len]
  have hel : ∀ (i : Nat) (a : U), us[i]? = some a → ms[i]? = some (a.mk (U.mks (us.take i) k0).2).1 := fun i a h => by rw [← hms]; exact mks_get h k0
  rw [hms]
  refine SpecP_intro Try.func44 rfl (by kernel_rfl) rfl fun A _ => ?_
  repeat (first | refine VO_d ?_ | refine VQ_d ?_  | (first | refine VO_nil ?_ | refine VQ_nil ?_) | (first | refine V_seq_region ?_ | refine V_seq (V_seq_region ?_) | refine V_seq_draw tmix (by kernel_rfl) ?_ | refine V_seq (V_seq_draw tmix (by kernel_rfl) ?_) | refine V_region ?_ | refine V_draw tmix (by kernel_rfl) ?_))
  refine V_block ?_
  refine V_loop (α := Nat)
    (fun i => ⟨[(0, .d (.sl 3 ms)), (1, .d (.i .i64 (U.mks (us.take i) k0).2)), (5, .d (.i .i64 i))], [], Try.f44.ntmps⟩)
    (fun i => i ≤ us.length)
    (fun i => us.length - i) 0 ⟨rfl, ⟨⟨rfl, rfl⟩, ⟨rfl, rfl⟩, ⟨rfl, rfl⟩, trivial⟩, ⟨[], rfl⟩, rfl⟩ (by simp) ?_
  intro i hi
  repeat (first | refine VO_d ?_ | refine VQ_d ?_  | (first | refine VO_nil ?_ | refine VQ_nil ?_) | (first | refine V_seq_region ?_ | refine V_seq (V_seq_region ?_) | refine V_seq_draw tmix (by kernel_rfl) ?_ | refine V_seq (V_seq_draw tmix (by kernel_rfl) ?_) | refine V_region ?_ | refine V_draw tmix (by kernel_rfl) ?_))
  (first | refine V_cond rfl (fun hc2 => ?_) (fun hc2 => ?_) | refine V_seq (V_cond rfl (fun hc2 => ?_) (fun hc2 => ?_)))
  · refine V_skip ?_
    simp only [decide_eq_true_eq] at hc2
    have hil : i < us.length := by omega
    obtain ⟨a, hget⟩ : ∃ a, us[i]? = some a := ⟨_, List.getElem?_eq_getElem hil⟩
    have hmem := List.mem_of_getElem? hget
    have hnext := (mks_next hget k0).2
    have hmid := lfs_mid hget
    have hsnd := mks_snd (us.take i) k0
    have hge := hel i a hget
    have hwa := hz a hmem
    obtain ⟨a_0, a_1, a_2, rfl, hwa_0, hwa_1, hwa_2⟩ := inv_Type hwa
    have hlfa : ((.st [.i .i64 a_0, .s a_1, .sl 3 a_2]) : U).lf = 0 + 1 + 1 + U.lfs a_2 := by simp [U.lf, U.lfs]; omega
    rw [hlfa] at hmid
    have hkp : 0 < (U.mks (us.take i) k0).2 := by omega
    have hkb : (U.mks (us.take i) k0).2 + (0 + 1 + 1 + U.lfs a_2 : Nat) ≤ 4611686018427387904 := by omega
    clear hsnd hlfa hmid
    generalize (U.mks (us.take i) k0).2 = kk at hnext hkp hkb hge ⊢
    have hge : ms[i]? = some (.st [.i .i64 (kk), .s (txt (kk + 1)), .sl 3 (U.mks a_2 (kk + 1 + 1)).1]) := hge
    refine V_seq (V_block ?_)
    repeat (first | refine VO_d ?_ | refine VQ_d ?_ | (first | refine VO_q (Q_index rfl rfl TE.h TI.h (by omega) hge) rfl ?_ | refine VQ_q (Q_index rfl rfl TE.h TI.h (by omega) hge) rfl ?_ | (refine VO_bare rfl rfl rfl rfl ?_; refine VO_q (Q_index rfl rfl TE.h TI.h (by omega) hge) rfl ?_) | refine VQ_run rfl rfl rfl rfl (Q_index rfl rfl TE.h TI.h (by omega) hge) rfl ?_) | (first | refine VO_nil ?_ | refine VQ_nil ?_) | (first | refine V_seq_region ?_ | refine V_seq (V_seq_region ?_) | refine V_seq_draw tmix (by kernel_rfl) ?_ | refine V_seq (V_seq_draw tmix (by kernel_rfl) ?_) | refine V_region ?_ | refine V_draw tmix (by kernel_rfl) ?_))
    (first | refine V_cond rfl (fun hc3 => ?_) (fun hc3 => ?_) | refine V_seq (V_cond rfl (fun hc3 => ?_) (fun hc3 => ?_)))
    · simp at hc3
    refine V_skip ?_
    clear hc3
    have ht1 := markText_all (kk + 1) (by omega) (by omega)
    repeat (first | refine VO_d ?_ | refine VQ_d ?_ | (first | refine VO_q (Q_index rfl rfl TE.h TI.h (by omega) hge) rfl ?_ | refine VQ_q (Q_index rfl rfl TE.h TI.h (by omega) hge) rfl ?_ | (refine VO_bare rfl rfl rfl rfl ?_; refine VO_q (Q_index rfl rfl TE.h TI.h (by omega) hge) rfl ?_) | refine VQ_run rfl rfl rfl rfl (Q_index rfl rfl TE.h TI.h (by omega) hge) rfl ?_) | (first | refine VO_q (Q_call rfl ht1 (by (repeat (first | exact trivial | exact rfl | exact ⟨_, rfl⟩ | refine And.intro ?_ ?_)); first | done | fail)) rfl ?_ | refine VQ_q (Q_call rfl ht1 (by (repeat (first | exact trivial | exact rfl | exact ⟨_, rfl⟩ | refine And.intro ?_ ?_)); first | done | fail)) rfl ?_ | (refine VO_bare rfl rfl rfl rfl ?_; refine VO_q (Q_call rfl ht1 (by (repeat (first | exact trivial | exact rfl | exact ⟨_, rfl⟩ | refine And.intro ?_ ?_)); first | done | fail)) rfl ?_) | refine VQ_run rfl rfl rfl rfl (Q_call rfl ht1 (by (repeat (first | exact trivial | exact rfl | exact ⟨_, rfl⟩ | refine And.intro ?_ ?_)); first | done | fail)) rfl ?_) | (first | refine VO_nil ?_ | refine VQ_nil ?_) | (first | refine V_seq_region ?_ | refine V_seq (V_seq_region ?_) | refine V_seq_draw tmix (by kernel_rfl) ?_ | refine V_seq (V_seq_draw tmix (by kernel_rfl) ?_) | refine V_region ?_ | refine V_draw tmix (by kernel_rfl) ?_))
    (first | refine V_cond rfl (fun hc3 => ?_) (fun hc3 => ?_) | refine V_seq (V_cond rfl (fun hc3 => ?_) (fun hc3 => ?_)))
    · simp at hc3
    refine V_skip ?_
    clear hc3
    have hm2 := ih0 a_0 a_1 a_2 hmem (kk + 1 + 1) (by omega) (by simp only [U.lf]; omega)
    change SpecP _ _ [.d (.sl 3 (U.mks a_2 (kk + 1 + 1)).1), _] [.i .i64 (U.mks a_2 (kk + 1 + 1)).2] at hm2
    have hs2 := mks_snd a_2 (kk + 1 + 1)
    repeat (first | refine VO_d ?_ | refine VQ_d ?_ | (first | refine VO_q (Q_index rfl rfl TE.h TI.h (by omega) hge) rfl ?_ | refine VQ_q (Q_index rfl rfl TE.h TI.h (by omega) hge) rfl ?_ | (refine VO_bare rfl rfl rfl rfl ?_; refine VO_q (Q_index rfl rfl TE.h TI.h (by omega) hge) rfl ?_) | refine VQ_run rfl rfl rfl rfl (Q_index rfl rfl TE.h TI.h (by omega) hge) rfl ?_) | (first | refine VO_q (Q_call rfl hm2 (by (repeat (first | exact trivial | exact rfl | exact ⟨_, rfl⟩ | refine And.intro ?_ ?_)); first | done | fail)) rfl ?_ | refine VQ_q (Q_call rfl hm2 (by (repeat (first | exact trivial | exact rfl | exact ⟨_, rfl⟩ | refine And.intro ?_ ?_)); first | done | fail)) rfl ?_ | (refine VO_bare rfl rfl rfl rfl ?_; refine VO_q (Q_call rfl hm2 (by (repeat (first | exact trivial | exact rfl | exact ⟨_, rfl⟩ | refine And.intro ?_ ?_)); first | done | fail)) rfl ?_) | refine VQ_run rfl rfl rfl rfl (Q_call rfl hm2 (by (repeat (first | exact trivial | exact rfl | exact ⟨_, rfl⟩ | refine And.intro ?_ ?_)); first | done | fail)) rfl ?_) | (first | refine VO_nil ?_ | refine VQ_nil ?_) | (first | refine V_seq_region ?_ | refine V_seq (V_seq_region ?_) | refine V_seq_draw tmix (by kernel_rfl) ?_ | refine V_seq (V_seq_draw tmix (by kernel_rfl) ?_) | refine V_region ?_ | refine V_draw tmix (by kernel_rfl) ?_))
    (first | refine V_cond rfl (fun hc3 => ?_) (fun hc3 => ?_) | refine V_seq (V_cond rfl (fun hc3 => ?_) (fun hc3 => ?_)))
    · exfalso; simp only [decide_eq_true_eq] at hc3; change (U.mks a_2 (kk + 1 + 1)).2 < 0 at hc3; omega
    refine V_skip ?_
    clear hc3
    repeat (first | refine VO_d ?_ | refine VQ_d ?_  | (first | refine VO_nil ?_ | refine VQ_nil ?_) | (first | refine V_seq_region ?_ | refine V_seq (V_seq_region ?_) | refine V_seq_draw tmix (by kernel_rfl) ?_ | refine V_seq (V_seq_draw tmix (by kernel_rfl) ?_) | refine V_region ?_ | refine V_draw tmix (by kernel_rfl) ?_))
    refine ⟨i + 1, by omega, by omega, ⟨rfl, ⟨⟨rfl, rfl⟩, ⟨?_, rfl⟩, ⟨rfl, rfl⟩, trivial⟩, ⟨[], rfl⟩, rfl⟩⟩
    rw [hnext]
    rfl
  · refine V_exit ?_
    simp only [decide_eq_false_iff_not] at hc2
    have hkl : i = us.length := by omega
    subst hkl
    show V _ _ _ _ _
    repeat (first | refine VO_d ?_ | refine VQ_d ?_  | (first | refine VO_nil ?_ | refine VQ_nil ?_) | (first | refine V_seq_region ?_ | refine V_seq (V_seq_region ?_) | refine V_seq_draw tmix (by kernel_rfl) ?_ | refine V_seq (V_seq_draw tmix (by kernel_rfl) ?_) | refine V_region ?_ | refine V_draw tmix (by kernel_rfl) ?_))
    refine V_ret ?_
    refine ⟨trivial, ⟨_, rfl, ?_⟩, trivial⟩
    rw [List.take_length]
    exact rfl

set_option maxHeartbeats 8000000 in
theorem heldType_step {f0 : Int} {f1 : List UInt8} {f2 : List U} (h2 : PHe 44 (.sl 3 f2)) : PHe 15 (.st [.i .i64 f0, .s f1, .sl 3 f2]) := by
  intro k0 hk0 hk1
  have hlf : ((.st [.i .i64 f0, .s f1, .sl 3 f2]) : U).lf = 0 + 1 + 1 + U.lfs f2 := by simp [U.lf, U.lfs]; omega
  rw [hlf] at hk1
  show SpecP _ _ [.d (.st [.i .i64 f0, .s f1, .sl 3 (U.mks f2 (k0)).1]), .d (.i .i64 k0)] [.i .i64 ((U.mks f2 (k0)).2)]
  refine SpecP_intro Try.func15 rfl (by kernel_rfl) rfl fun A _ => ?_
  have hm2 := h2 (k0) (by omega) (by simp only [U.lf, U.lfs]; omega)
  have hs_f2 := mks_snd f2 (k0)
  repeat (first | refine VO_d ?_ | refine VQ_d ?_ | (first | refine VO_q (Q_call rfl hm2 (by (repeat (first | exact trivial | exact rfl | exact ⟨_, rfl⟩ | refine And.intro ?_ ?_)); first | done | fail)) rfl ?_ | refine VQ_q (Q_call rfl hm2 (by (repeat (first | exact trivial | exact rfl | exact ⟨_, rfl⟩ | refine And.intro ?_ ?_)); first | done | fail)) rfl ?_ | (refine VO_bare rfl rfl rfl rfl ?_; refine VO_q (Q_call rfl hm2 (by (repeat (first | exact trivial | exact rfl | exact ⟨_, rfl⟩ | refine And.intro ?_ ?_)); first | done | fail)) rfl ?_) | refine VQ_run rfl rfl rfl rfl (Q_call rfl hm2 (by (repeat (first | exact trivial | exact rfl | exact ⟨_, rfl⟩ | refine And.intro ?_ ?_)); first | done | fail)) rfl ?_) | (first | refine VO_nil ?_ | refine VQ_nil ?_) | (first | refine V_seq_region ?_ | refine V_seq (V_seq_region ?_) | refine V_seq_draw tmix (by kernel_rfl) ?_ | refine V_seq (V_seq_draw tmix (by kernel_rfl) ?_) | refine V_region ?_ | refine V_draw tmix (by kernel_rfl) ?_))
  (first | refine V_cond rfl (fun hc3 => ?_) (fun hc3 => ?_) | refine V_seq (V_cond rfl (fun hc3 => ?_) (fun hc3 => ?_)))
  · exfalso; simp only [decide_eq_true_eq] at hc3; change (U.mks f2 (k0)).2 < 0 at hc3; omega
  refine V_skip ?_
  clear hc3
  repeat (first | refine VO_d ?_ | refine VQ_d ?_  | (first | refine VO_nil ?_ | refine VQ_nil ?_) | (first | refine V_seq_region ?_ | refine V_seq (V_seq_region ?_) | refine V_seq_draw tmix (by kernel_rfl) ?_ | refine V_seq (V_seq_draw tmix (by kernel_rfl) ?_) | refine V_region ?_ | refine V_draw tmix (by kernel_rfl) ?_))
  refine V_ret ?_
  exact ⟨trivial, ⟨_, rfl, rfl⟩, trivial⟩

theorem heldType_grp (u : U) : (∀ us, u = .sl 3 us → us.length ≤ big → (∀ x ∈ us, wt (.st 1) x) → PHe 44 u) := by
  refine U.ind (M := fun u => (∀ us, u = .sl 3 us → us.length ≤ big → (∀ x ∈ us, wt (.st 1) x) → PHe 44 u)) (fun u ih => ?_) u
  refine ?_
  · rintro us rfl hl hz
    exact heldTypeS_step hl hz (fun a_0 a_1 a_2 ha => by obtain ⟨_, _, _, hx_a, qa_0, qa_1, qa_2⟩ := inv_Type (hz _ ha); cases hx_a; exact (ih (.sl 3 a_2) (by have := nn_of_mem ha; simp only [U.nn, U.nns] at this ⊢; omega)) a_2 rfl qa_2.1 qa_2.2)
theorem heldTypeS_all {us : List U} (h : us.length ≤ big ∧ ∀ x ∈ us, wt (.st 1) x) : PHe 44 (.sl 3 us) := (heldType_grp (.sl 3 us)) us rfl h.1 h.2
theorem heldType_all {u : U} (h : wt (.st 1) u) : PHe 15 u := by
  obtain ⟨f0, f1, f2, rfl, p0, p1, p2⟩ := inv_Type h
  exact heldType_step (heldTypeS_all p2)

set_option maxHeartbeats 8000000 in
theorem heldEvidenceS_step {us : List U} (hl : us.length ≤ big) (hz : ∀ a ∈ us, wt (.st 18) a) (ih0 : ∀ (a_0 : Int) (a_1 : Int) (a_2_0 : Int) (a_2_1 : Int) (a_3 : List U), .st [.i .i64 a_0, .i .i64 a_1, .st [.i .i64 a_2_0, .i .i64 a_2_1], .sl 5 a_3] ∈ us → PHe 67 (.sl 5 a_3)) : PHe 67 (.sl 5 us) := by
  intro k0 hk0 hk1
  have hlf : (U.sl 5 us).lf = U.lfs us := rfl
  rw [hlf] at hk1
  rw [big_eq] at hl
  show SpecP _ _ [.d (.sl 5 (U.mks us k0).1), .d (.i .i64 k0)] [.i .i64 (U.mks us k0).2]
  obtain ⟨ms, hms⟩ : ∃ ms, (U.mks us k0).1 = ms := ⟨_, rfl⟩
  have hml : ms.length = us.length := by rw [← hms, mks_len]
  have hel : ∀ (i : Nat) (a : U), us[i]? = some a → ms[i]? = some (a.mk (U.mks (us.take i) k0).2).1 := fun i a h => by rw [← hms]; exact mks_get h k0
  rw [hms]
  refine SpecP_intro Try.func67 rfl (by kernel_rfl) rfl fun A _ => ?_
  repeat (first | refine VO_d ?_ | refine VQ_d ?_  | (first | refine VO_nil ?_ | refine VQ_nil ?_) | (first | refine V_seq_region ?_ | refine V_seq (V_seq_region ?_) | refine V_seq_draw tmix (by kernel_rfl) ?_ | refine V_seq (V_seq_draw tmix (by kernel_rfl) ?_) | refine V_region ?_ | refine V_draw tmix (by kernel_rfl) ?_))
  refine V_block ?_
  refine V_loop (α := Nat)
    (fun i => ⟨[(0, .d (.sl 5 ms)), (1, .d (.i .i64 (U.mks (us.take i) k0).2)), (5, .d (.i .i64 i))], [], Try.f67.ntmps⟩)
    (fun i => i ≤ us.length)
    (fun i => us.length - i) 0 ⟨rfl, ⟨⟨rfl, rfl⟩, ⟨rfl, rfl⟩, ⟨rfl, rfl⟩, trivial⟩, ⟨[], rfl⟩, rfl⟩ (by simp) ?_
  intro i hi
  repeat (first | refine VO_d ?_ | refine VQ_d ?_  | (first | refine VO_nil ?_ | refine VQ_nil ?_) | (first | refine V_seq_region ?_ | refine V_seq (V_seq_region ?_) | refine V_seq_draw tmix (by kernel_rfl) ?_ | refine V_seq (V_seq_draw tmix (by kernel_rfl) ?_) | refine V_region ?_ | refine V_draw tmix (by kernel_rfl) ?_))
  (first | refine V_cond rfl (fun hc2 => ?_) (fun hc2 => ?_) | refine V_seq (V_cond rfl (fun hc2 => ?_) (fun hc2 => ?_)))
  · refine V_skip ?_
    simp only [decide_eq_true_eq] at hc2
    have hil : i < us.length := by omega
    obtain ⟨a, hget⟩ : ∃ a, us[i]? = some a := ⟨_, List.getElem?_eq_getElem hil⟩
    have hmem := List.mem_of_getElem? hget
    have hnext := (mks_next hget k0).2
    have hmid := lfs_mid hget
    have hsnd := mks_snd (us.take i) k0
    have hge := hel i a hget
    have hwa := hz a hmem
    obtain ⟨a_0, a_1, a_2, a_3, rfl, hwa_0, hwa_1, hwa_2, hwa_3⟩ := inv_Evidence hwa
    obtain ⟨a_2_0, a_2_1, rfl, hwa_2_0, hwa_2_1⟩ := inv_InstanceRef hwa_2
    have hlfa : ((.st [.i .i64 a_0, .i .i64 a_1, .st [.i .i64 a_2_0, .i .i64 a_2_1], .sl 5 a_3]) : U).lf = 0 + 1 + 1 + 1 + 1 + U.lfs a_3 := by simp [U.lf, U.lfs]; omega
    rw [hlfa] at hmid
    have hkp : 0 < (U.mks (us.take i) k0).2 := by omega
    have hkb : (U.mks (us.take i) k0).2 + (0 + 1 + 1 + 1 + 1 + U.lfs a_3 : Nat) ≤ 4611686018427387904 := by omega
    clear hsnd hlfa hmid
    generalize (U.mks (us.take i) k0).2 = kk at hnext hkp hkb hge ⊢
    have hge : ms[i]? = some (.st [.i .i64 (kk), .i .i64 (kk + 1), .st [.i .i64 (kk + 1 + 1), .i .i64 (kk + 1 + 1 + 1)], .sl 5 (U.mks a_3 (kk + 1 + 1 + 1 + 1)).1]) := hge
    refine V_seq (V_block ?_)
    repeat (first | refine VO_d ?_ | refine VQ_d ?_ | (first | refine VO_q (Q_index rfl rfl TE.h TI.h (by omega) hge) rfl ?_ | refine VQ_q (Q_index rfl rfl TE.h TI.h (by omega) hge) rfl ?_ | (refine VO_bare rfl rfl rfl rfl ?_; refine VO_q (Q_index rfl rfl TE.h TI.h (by omega) hge) rfl ?_) | refine VQ_run rfl rfl rfl rfl (Q_index rfl rfl TE.h TI.h (by omega) hge) rfl ?_) | (first | refine VO_nil ?_ | refine VQ_nil ?_) | (first | refine V_seq_region ?_ | refine V_seq (V_seq_region ?_) | refine V_seq_draw tmix (by kernel_rfl) ?_ | refine V_seq (V_seq_draw tmix (by kernel_rfl) ?_) | refine V_region ?_ | refine V_draw tmix (by kernel_rfl) ?_))
    (first | refine V_cond rfl (fun hc3 => ?_) (fun hc3 => ?_) | refine V_seq (V_cond rfl (fun hc3 => ?_) (fun hc3 => ?_)))
    · simp at hc3
    refine V_skip ?_
    clear hc3
    repeat (first | refine VO_d ?_ | refine VQ_d ?_ | (first | refine VO_q (Q_index rfl rfl TE.h TI.h (by omega) hge) rfl ?_ | refine VQ_q (Q_index rfl rfl TE.h TI.h (by omega) hge) rfl ?_ | (refine VO_bare rfl rfl rfl rfl ?_; refine VO_q (Q_index rfl rfl TE.h TI.h (by omega) hge) rfl ?_) | refine VQ_run rfl rfl rfl rfl (Q_index rfl rfl TE.h TI.h (by omega) hge) rfl ?_) | (first | refine VO_nil ?_ | refine VQ_nil ?_) | (first | refine V_seq_region ?_ | refine V_seq (V_seq_region ?_) | refine V_seq_draw tmix (by kernel_rfl) ?_ | refine V_seq (V_seq_draw tmix (by kernel_rfl) ?_) | refine V_region ?_ | refine V_draw tmix (by kernel_rfl) ?_))
    (first | refine V_cond rfl (fun hc3 => ?_) (fun hc3 => ?_) | refine V_seq (V_cond rfl (fun hc3 => ?_) (fun hc3 => ?_)))
    · simp at hc3
    refine V_skip ?_
    clear hc3
    repeat (first | refine VO_d ?_ | refine VQ_d ?_ | (first | refine VO_q (Q_index rfl rfl TE.h TI.h (by omega) hge) rfl ?_ | refine VQ_q (Q_index rfl rfl TE.h TI.h (by omega) hge) rfl ?_ | (refine VO_bare rfl rfl rfl rfl ?_; refine VO_q (Q_index rfl rfl TE.h TI.h (by omega) hge) rfl ?_) | refine VQ_run rfl rfl rfl rfl (Q_index rfl rfl TE.h TI.h (by omega) hge) rfl ?_) | (first | refine VO_nil ?_ | refine VQ_nil ?_) | (first | refine V_seq_region ?_ | refine V_seq (V_seq_region ?_) | refine V_seq_draw tmix (by kernel_rfl) ?_ | refine V_seq (V_seq_draw tmix (by kernel_rfl) ?_) | refine V_region ?_ | refine V_draw tmix (by kernel_rfl) ?_))
    (first | refine V_cond rfl (fun hc3 => ?_) (fun hc3 => ?_) | refine V_seq (V_cond rfl (fun hc3 => ?_) (fun hc3 => ?_)))
    · simp at hc3
    refine V_skip ?_
    clear hc3
    repeat (first | refine VO_d ?_ | refine VQ_d ?_ | (first | refine VO_q (Q_index rfl rfl TE.h TI.h (by omega) hge) rfl ?_ | refine VQ_q (Q_index rfl rfl TE.h TI.h (by omega) hge) rfl ?_ | (refine VO_bare rfl rfl rfl rfl ?_; refine VO_q (Q_index rfl rfl TE.h TI.h (by omega) hge) rfl ?_) | refine VQ_run rfl rfl rfl rfl (Q_index rfl rfl TE.h TI.h (by omega) hge) rfl ?_) | (first | refine VO_nil ?_ | refine VQ_nil ?_) | (first | refine V_seq_region ?_ | refine V_seq (V_seq_region ?_) | refine V_seq_draw tmix (by kernel_rfl) ?_ | refine V_seq (V_seq_draw tmix (by kernel_rfl) ?_) | refine V_region ?_ | refine V_draw tmix (by kernel_rfl) ?_))
    (first | refine V_cond rfl (fun hc3 => ?_) (fun hc3 => ?_) | refine V_seq (V_cond rfl (fun hc3 => ?_) (fun hc3 => ?_)))
    · simp at hc3
    refine V_skip ?_
    clear hc3
    have hm4 := ih0 a_0 a_1 a_2_0 a_2_1 a_3 hmem (kk + 1 + 1 + 1 + 1) (by omega) (by simp only [U.lf]; omega)
    change SpecP _ _ [.d (.sl 5 (U.mks a_3 (kk + 1 + 1 + 1 + 1)).1), _] [.i .i64 (U.mks a_3 (kk + 1 + 1 + 1 + 1)).2] at hm4
    have hs4 := mks_snd a_3 (kk + 1 + 1 + 1 + 1)
    repeat (first | refine VO_d ?_ | refine VQ_d ?_ | (first | refine VO_q (Q_index rfl rfl TE.h TI.h (by omega) hge) rfl ?_ | refine VQ_q (Q_index rfl rfl TE.h TI.h (by omega) hge) rfl ?_ | (refine VO_bare rfl rfl rfl rfl ?_; refine VO_q (Q_index rfl rfl TE.h TI.h (by omega) hge) rfl ?_) | refine VQ_run rfl rfl rfl rfl (Q_index rfl rfl TE.h TI.h (by omega) hge) rfl ?_) | (first | refine VO_q (Q_call rfl hm4 (by (repeat (first | exact trivial | exact rfl | exact ⟨_, rfl⟩ | refine And.intro ?_ ?_)); first | done | fail)) rfl ?_ | refine VQ_q (Q_call rfl hm4 (by (repeat (first | exact trivial | exact rfl | exact ⟨_, rfl⟩ | refine And.intro ?_ ?_)); first | done | fail)) rfl ?_ | (refine VO_bare rfl rfl rfl rfl ?_; refine VO_q (Q_call rfl hm4 (by (repeat (first | exact trivial | exact rfl | exact ⟨_, rfl⟩ | refine And.intro ?_ ?_)); first | done | fail)) rfl ?_) | refine VQ_run rfl rfl rfl rfl (Q_call rfl hm4 (by (repeat (first | exact trivial | exact rfl | exact ⟨_, rfl⟩ | refine And.intro ?_ ?_)); first | done | fail)) rfl ?_) | (first | refine VO_nil ?_ | refine VQ_nil ?_) | (first | refine V_seq_region ?_ | refine V_seq (V_seq_region ?_) | refine V_seq_draw tmix (by kernel_rfl) ?_ | refine V_seq (V_seq_draw tmix (by kernel_rfl) ?_) | refine V_region ?_ | refine V_draw tmix (by kernel_rfl) ?_))
    (first | refine V_cond rfl (fun hc3 => ?_) (fun hc3 => ?_) | refine V_seq (V_cond rfl (fun hc3 => ?_) (fun hc3 => ?_)))
    · exfalso; simp only [decide_eq_true_eq] at hc3; change (U.mks a_3 (kk + 1 + 1 + 1 + 1)).2 < 0 at hc3; omega
    refine V_skip ?_
    clear hc3
    repeat (first | refine VO_d ?_ | refine VQ_d ?_  | (first | refine VO_nil ?_ | refine VQ_nil ?_) | (first | refine V_seq_region ?_ | refine V_seq (V_seq_region ?_) | refine V_seq_draw tmix (by kernel_rfl) ?_ | refine V_seq (V_seq_draw tmix (by kernel_rfl) ?_) | refine V_region ?_ | refine V_draw tmix (by kernel_rfl) ?_))
    refine ⟨i + 1, by omega, by omega, ⟨rfl, ⟨⟨rfl, rfl⟩, ⟨?_, rfl⟩, ⟨rfl, rfl⟩, trivial⟩, ⟨[], rfl⟩, rfl⟩⟩
    rw [hnext]
    rfl
  · refine V_exit ?_
    simp only [decide_eq_false_iff_not] at hc2
    have hkl : i = us.length := by omega
    subst hkl
    show V _ _ _ _ _
    repeat (first | refine VO_d ?_ | refine VQ_d ?_  | (first | refine VO_nil ?_ | refine VQ_nil ?_) | (first | refine V_seq_region ?_ | refine V_seq (V_seq_region ?_) | refine V_seq_draw tmix (by kernel_rfl) ?_ | refine V_seq (V_seq_draw tmix (by kernel_rfl) ?_) | refine V_region ?_ | refine V_draw tmix (by kernel_rfl) ?_))
    refine V_ret ?_
    refine ⟨trivial, ⟨_, rfl, ?_⟩, trivial⟩
    rw [List.take_length]
    exact rfl

theorem heldEvidence_grp (u : U) : (∀ us, u = .sl 5 us → us.length ≤ big → (∀ x ∈ us, wt (.st 18) x) → PHe 67 u) := by
  refine U.ind (M := fun u => (∀ us, u = .sl 5 us → us.length ≤ big → (∀ x ∈ us, wt (.st 18) x) → PHe 67 u)) (fun u ih => ?_) u
  refine ?_
  · rintro us rfl hl hz
    exact heldEvidenceS_step hl hz (fun a_0 a_1 a_2_0 a_2_1 a_3 ha => by obtain ⟨_, _, _, _, hx_a, qa_0, qa_1, qa_2, qa_3⟩ := inv_Evidence (hz _ ha); cases hx_a; obtain ⟨_, _, hx_a_2, qa_2_0, qa_2_1⟩ := inv_InstanceRef qa_2; cases hx_a_2; exact (ih (.sl 5 a_3) (by have := nn_of_mem ha; simp only [U.nn, U.nns] at this ⊢; omega)) a_3 rfl qa_3.1 qa_3.2)
theorem heldEvidenceS_all {us : List U} (h : us.length ≤ big ∧ ∀ x ∈ us, wt (.st 18) x) : PHe 67 (.sl 5 us) := (heldEvidence_grp (.sl 5 us)) us rfl h.1 h.2
set_option maxHeartbeats 8000000 in
theorem heldStringS_step {us : List U} (hl : us.length ≤ big) (hz : ∀ a ∈ us, wt (.str) a) : PHe 99 (.sl 1 us) := by
  intro k0 hk0 hk1
  have hlf : (U.sl 1 us).lf = U.lfs us := rfl
  rw [hlf] at hk1
  rw [big_eq] at hl
  show SpecP _ _ [.d (.sl 1 (U.mks us k0).1), .d (.i .i64 k0)] [.i .i64 (U.mks us k0).2]
  obtain ⟨ms, hms⟩ : ∃ ms, (U.mks us k0).1 = ms := ⟨_, rfl⟩
  have hml : ms.length = us.length := by rw [← hms, mks_len]
  have hel : ∀ (i : Nat) (a : U), us[i]? = some a → ms[i]? = some (a.mk (U.mks (us.take i) k0).2).1 := fun i a h => by rw [← hms]; exact mks_get h k0
  rw [hms]
  refine SpecP_intro Try.func99 rfl (by kernel_rfl) rfl fun A _ => ?_
  repeat (first | refine VO_d ?_ | refine VQ_d ?_  | (first | refine VO_nil ?_ | refine VQ_nil ?_) | (first | refine V_seq_region ?_ | refine V_seq (V_seq_region ?_) | refine V_seq_draw tmix (by kernel_rfl) ?_ | refine V_seq (V_seq_draw tmix (by kernel_rfl) ?_) | refine V_region ?_ | refine V_draw tmix (by kernel_rfl) ?_))
  refine V_block ?_
  refine V_loop (α := Nat)
    (fun i => ⟨[(0, .d (.sl 1 ms)), (1, .d (.i .i64 (U.mks (us.take i) k0).2)), (5, .d (.i .i64 i))], [], Try.f99.ntmps⟩)
    (fun i => i ≤ us.length)
    (fun i => us.length - i) 0 ⟨rfl, ⟨⟨rfl, rfl⟩, ⟨rfl, rfl⟩, ⟨rfl, rfl⟩, trivial⟩, ⟨[], rfl⟩, rfl⟩ (by simp) ?_
  intro i hi
  repeat (first | refine VO_d ?_ | refine VQ_d ?_  | (first | refine VO_nil ?_ | refine VQ_nil ?_) | (first | refine V_seq_region ?_ | refine V_seq (V_seq_region ?_) | refine V_seq_draw tmix (by kernel_rfl) ?_ | refine V_seq (V_seq_draw tmix (by kernel_rfl) ?_) | refine V_region ?_ | refine V_draw tmix (by kernel_rfl) ?_))
  (first | refine V_cond rfl (fun hc2 => ?_) (fun hc2 => ?_) | refine V_seq (V_cond rfl (fun hc2 => ?_) (fun hc2 => ?_)))
  · refine V_skip ?_
    simp only [decide_eq_true_eq] at hc2
    have hil : i < us.length := by omega
    obtain ⟨a, hget⟩ : ∃ a, us[i]? = some a := ⟨_, List.getElem?_eq_getElem hil⟩
    have hmem := List.mem_of_getElem? hget
    have hnext := (mks_next hget k0).2
    have hmid := lfs_mid hget
    have hsnd := mks_snd (us.take i) k0
    have hge := hel i a hget
    obtain ⟨a, rfl, _⟩ := inv_str (hz a hmem)
    have hlfa : ((.s a) : U).lf = 0 + 1 := by simp [U.lf, U.lfs]
    rw [hlfa] at hmid
    have hkp : 0 < (U.mks (us.take i) k0).2 := by omega
    have hkb : (U.mks (us.take i) k0).2 + (0 + 1 : Nat) ≤ 4611686018427387904 := by omega
    clear hsnd hlfa hmid
    generalize (U.mks (us.take i) k0).2 = kk at hnext hkp hkb hge ⊢
    have hge : ms[i]? = some (.s (txt (kk))) := hge
    refine V_seq (V_block ?_)
    have ht0 := markText_all (kk) (by omega) (by omega)
    repeat (first | refine VO_d ?_ | refine VQ_d ?_ | (first | refine VO_q (Q_index rfl rfl TE.h TI.h (by omega) hge) rfl ?_ | refine VQ_q (Q_index rfl rfl TE.h TI.h (by omega) hge) rfl ?_ | (refine VO_bare rfl rfl rfl rfl ?_; refine VO_q (Q_index rfl rfl TE.h TI.h (by omega) hge) rfl ?_) | refine VQ_run rfl rfl rfl rfl (Q_index rfl rfl TE.h TI.h (by omega) hge) rfl ?_) | (first | refine VO_q (Q_call rfl ht0 (by (repeat (first | exact trivial | exact rfl | exact ⟨_, rfl⟩ | refine And.intro ?_ ?_)); first | done | fail)) rfl ?_ | refine VQ_q (Q_call rfl ht0 (by (repeat (first | exact trivial | exact rfl | exact ⟨_, rfl⟩ | refine And.intro ?_ ?_)); first | done | fail)) rfl ?_ | (refine VO_bare rfl rfl rfl rfl ?_; refine VO_q (Q_call rfl ht0 (by (repeat (first | exact trivial | exact rfl | exact ⟨_, rfl⟩ | refine And.intro ?_ ?_)); first | done | fail)) rfl ?_) | refine VQ_run rfl rfl rfl rfl (Q_call rfl ht0 (by (repeat (first | exact trivial | exact rfl | exact ⟨_, rfl⟩ | refine And.intro ?_ ?_)); first | done | fail)) rfl ?_) | (first | refine VO_nil ?_ | refine VQ_nil ?_) | (first | refine V_seq_region ?_ | refine V_seq (V_seq_region ?_) | refine V_seq_draw tmix (by kernel_rfl) ?_ | refine V_seq (V_seq_draw tmix (by kernel_rfl) ?_) | refine V_region ?_ | refine V_draw tmix (by kernel_rfl) ?_))
    (first | refine V_cond rfl (fun hc3 => ?_) (fun hc3 => ?_) | refine V_seq (V_cond rfl (fun hc3 => ?_) (fun hc3 => ?_)))
    · simp at hc3
    refine V_skip ?_
    clear hc3
    repeat (first | refine VO_d ?_ | refine VQ_d ?_  | (first | refine VO_nil ?_ | refine VQ_nil ?_) | (first | refine V_seq_region ?_ | refine V_seq (V_seq_region ?_) | refine V_seq_draw tmix (by kernel_rfl) ?_ | refine V_seq (V_seq_draw tmix (by kernel_rfl) ?_) | refine V_region ?_ | refine V_draw tmix (by kernel_rfl) ?_))
    refine ⟨i + 1, by omega, by omega, ⟨rfl, ⟨⟨rfl, rfl⟩, ⟨?_, rfl⟩, ⟨rfl, rfl⟩, trivial⟩, ⟨[], rfl⟩, rfl⟩⟩
    rw [hnext]
    rfl
  · refine V_exit ?_
    simp only [decide_eq_false_iff_not] at hc2
    have hkl : i = us.length := by omega
    subst hkl
    show V _ _ _ _ _
    repeat (first | refine VO_d ?_ | refine VQ_d ?_  | (first | refine VO_nil ?_ | refine VQ_nil ?_) | (first | refine V_seq_region ?_ | refine V_seq (V_seq_region ?_) | refine V_seq_draw tmix (by kernel_rfl) ?_ | refine V_seq (V_seq_draw tmix (by kernel_rfl) ?_) | refine V_region ?_ | refine V_draw tmix (by kernel_rfl) ?_))
    refine V_ret ?_
    refine ⟨trivial, ⟨_, rfl, ?_⟩, trivial⟩
    rw [List.take_length]
    exact rfl

theorem heldStringS_all {us : List U} (h : us.length ≤ big ∧ ∀ x ∈ us, wt .str x) : PHe 99 (.sl 1 us) := heldStringS_step h.1 h.2
set_option maxHeartbeats 8000000 in
theorem heldCoreArmS_step {us : List U} (hl : us.length ≤ big) (hz : ∀ a ∈ us, wt (.st 20) a) (ih0 : ∀ (a_0 : List UInt8) (a_1 : List U) (a_2_0 : Int) (a_2_1 : List UInt8) (a_2_2 : List UInt8) (a_2_3 : Int) (a_2_4_0 : Int) (a_2_4_1 : List UInt8) (a_2_4_2 : List U) (a_2_5 : List U) (a_2_6 : List U) (a_2_7 : List U) (a_2_8 : List U), .st [.s a_0, .sl 1 a_1, .st [.i .i64 a_2_0, .s a_2_1, .s a_2_2, .i .i64 a_2_3, .st [.i .i64 a_2_4_0, .s a_2_4_1, .sl 3 a_2_4_2], .sl 3 a_2_5, .sl 5 a_2_6, .sl 11 a_2_7, .sl 13 a_2_8]] ∈ us → PHe 99 (.sl 1 a_1)) (ih1 : ∀ (a_0 : List UInt8) (a_1 : List U) (a_2_0 : Int) (a_2_1 : List UInt8) (a_2_2 : List UInt8) (a_2_3 : Int) (a_2_4_0 : Int) (a_2_4_1 : List UInt8) (a_2_4_2 : List U) (a_2_5 : List U) (a_2_6 : List U) (a_2_7 : List U) (a_2_8 : List U), .st [.s a_0, .sl 1 a_1, .st [.i .i64 a_2_0, .s a_2_1, .s a_2_2, .i .i64 a_2_3, .st [.i .i64 a_2_4_0, .s a_2_4_1, .sl 3 a_2_4_2], .sl 3 a_2_5, .sl 5 a_2_6, .sl 11 a_2_7, .sl 13 a_2_8]] ∈ us → PHe 44 (.sl 3 a_2_4_2)) (ih2 : ∀ (a_0 : List UInt8) (a_1 : List U) (a_2_0 : Int) (a_2_1 : List UInt8) (a_2_2 : List UInt8) (a_2_3 : Int) (a_2_4_0 : Int) (a_2_4_1 : List UInt8) (a_2_4_2 : List U) (a_2_5 : List U) (a_2_6 : List U) (a_2_7 : List U) (a_2_8 : List U), .st [.s a_0, .sl 1 a_1, .st [.i .i64 a_2_0, .s a_2_1, .s a_2_2, .i .i64 a_2_3, .st [.i .i64 a_2_4_0, .s a_2_4_1, .sl 3 a_2_4_2], .sl 3 a_2_5, .sl 5 a_2_6, .sl 11 a_2_7, .sl 13 a_2_8]] ∈ us → PHe 44 (.sl 3 a_2_5)) (ih3 : ∀ (a_0 : List UInt8) (a_1 : List U) (a_2_0 : Int) (a_2_1 : List UInt8) (a_2_2 : List UInt8) (a_2_3 : Int) (a_2_4_0 : Int) (a_2_4_1 : List UInt8) (a_2_4_2 : List U) (a_2_5 : List U) (a_2_6 : List U) (a_2_7 : List U) (a_2_8 : List U), .st [.s a_0, .sl 1 a_1, .st [.i .i64 a_2_0, .s a_2_1, .s a_2_2, .i .i64 a_2_3, .st [.i .i64 a_2_4_0, .s a_2_4_1, .sl 3 a_2_4_2], .sl 3 a_2_5, .sl 5 a_2_6, .sl 11 a_2_7, .sl 13 a_2_8]] ∈ us → PHe 67 (.sl 5 a_2_6)) (ih4 : ∀ (a_0 : List UInt8) (a_1 : List U) (a_2_0 : Int) (a_2_1 : List UInt8) (a_2_2 : List UInt8) (a_2_3 : Int) (a_2_4_0 : Int) (a_2_4_1 : List UInt8) (a_2_4_2 : List U) (a_2_5 : List U) (a_2_6 : List U) (a_2_7 : List U) (a_2_8 : List U), .st [.s a_0, .sl 1 a_1, .st [.i .i64 a_2_0, .s a_2_1, .s a_2_2, .i .i64 a_2_3, .st [.i .i64 a_2_4_0, .s a_2_4_1, .sl 3 a_2_4_2], .sl 3 a_2_5, .sl 5 a_2_6, .sl 11 a_2_7, .sl 13 a_2_8]] ∈ us → PHe 68 (.sl 11 a_2_7)) (ih5 : ∀ (a_0 : List UInt8) (a_1 : List U) (a_2_0 : Int) (a_2_1 : List UInt8) (a_2_2 : List UInt8) (a_2_3 : Int) (a_2_4_0 : Int) (a_2_4_1 : List UInt8) (a_2_4_2 : List U) (a_2_5 : List U) (a_2_6 : List U) (a_2_7 : List U) (a_2_8 : List U), .st [.s a_0, .sl 1 a_1, .st [.i .i64 a_2_0, .s a_2_1, .s a_2_2, .i .i64 a_2_3, .st [.i .i64 a_2_4_0, .s a_2_4_1, .sl 3 a_2_4_2], .sl 3 a_2_5, .sl 5 a_2_6, .sl 11 a_2_7, .sl 13 a_2_8]] ∈ us → PHe 69 (.sl 13 a_2_8)) : PHe 69 (.sl 13 us) := by
  intro k0 hk0 hk1
  have hlf : (U.sl 13 us).lf = U.lfs us := rfl
  rw [hlf] at hk1
  rw [big_eq] at hl
  show SpecP _ _ [.d (.sl 13 (U.mks us k0).1), .d (.i .i64 k0)] [.i .i64 (U.mks us k0).2]
  obtain ⟨ms, hms⟩ : ∃ ms, (U.mks us k0).1 = ms := ⟨_, rfl⟩
  have hml : ms.length = us.length := by rw [← hms, mks_len]
  have hel : ∀ (i : Nat) (a : U), us[i]? = some a → ms[i]? = some (a.mk (U.mks (us.take i) k0).2).1 := fun i a h => by rw [← hms]; exact mks_get h k0
  rw [hms]
  refine SpecP_intro Try.func69 rfl (by kernel_rfl) rfl fun A _ => ?_
  repeat (first | refine VO_d ?_ | refine VQ_d ?_  | (first | refine VO_nil ?_ | refine VQ_nil ?_) | (first | refine V_seq_region ?_ | refine V_seq (V_seq_region ?_) | refine V_seq_draw tmix (by kernel_rfl) ?_ | refine V_seq (V_seq_draw tmix (by kernel_rfl) ?_) | refine V_region ?_ | refine V_draw tmix (by kernel_rfl) ?_))
  refine V_block ?_
  refine V_loop (α := Nat)
    (fun i => ⟨[(0, .d (.sl 13 ms)), (1, .d (.i .i64 (U.mks (us.take i) k0).2)), (5, .d (.i .i64 i))], [], Try.f69.ntmps⟩)
    (fun i => i ≤ us.length)
    (fun i => us.length - i) 0 ⟨rfl, ⟨⟨rfl, rfl⟩, ⟨rfl, rfl⟩, ⟨rfl, rfl⟩, trivial⟩, ⟨[], rfl⟩, rfl⟩ (by simp) ?_
  intro i hi
  repeat (first | refine VO_d ?_ | refine VQ_d ?_  | (first | refine VO_nil ?_ | refine VQ_nil ?_) | (first | refine V_seq_region ?_ | refine V_seq (V_seq_region ?_) | refine V_seq_draw tmix (by kernel_rfl) ?_ | refine V_seq (V_seq_draw tmix (by kernel_rfl) ?_) | refine V_region ?_ | refine V_draw tmix (by kernel_rfl) ?_))
  (first | refine V_cond rfl (fun hc2 => ?_) (fun hc2 => ?_) | refine V_seq (V_cond rfl (fun hc2 => ?_) (fun hc2 => ?_)))
  · refine V_skip ?_
    simp only [decide_eq_true_eq] at hc2
    have hil : i < us.length := by omega
    obtain ⟨a, hget⟩ : ∃ a, us[i]? = some a := ⟨_, List.getElem?_eq_getElem hil⟩
    have hmem := List.mem_of_getElem? hget
    have hnext := (mks_next hget k0).2
    have hmid := lfs_mid hget
    have hsnd := mks_snd (us.take i) k0
    have hge := hel i a hget
    have hwa := hz a hmem
    obtain ⟨a_0, a_1, a_2, rfl, hwa_0, hwa_1, hwa_2⟩ := inv_CoreArm hwa
    obtain ⟨a_2_0, a_2_1, a_2_2, a_2_3, a_2_4, a_2_5, a_2_6, a_2_7, a_2_8, rfl, hwa_2_0, hwa_2_1, hwa_2_2, hwa_2_3, hwa_2_4, hwa_2_5, hwa_2_6, hwa_2_7, hwa_2_8⟩ := inv_Core hwa_2
    obtain ⟨a_2_4_0, a_2_4_1, a_2_4_2, rfl, hwa_2_4_0, hwa_2_4_1, hwa_2_4_2⟩ := inv_Type hwa_2_4
    have hlfa : ((.st [.s a_0, .sl 1 a_1, .st [.i .i64 a_2_0, .s a_2_1, .s a_2_2, .i .i64 a_2_3, .st [.i .i64 a_2_4_0, .s a_2_4_1, .sl 3 a_2_4_2], .sl 3 a_2_5, .sl 5 a_2_6, .sl 11 a_2_7, .sl 13 a_2_8]]) : U).lf = 0 + 1 + U.lfs a_1 + 1 + 1 + 1 + 1 + 1 + 1 + U.lfs a_2_4_2 + U.lfs a_2_5 + U.lfs a_2_6 + U.lfs a_2_7 + U.lfs a_2_8 := by simp [U.lf, U.lfs]; omega
    rw [hlfa] at hmid
    have hkp : 0 < (U.mks (us.take i) k0).2 := by omega
    have hkb : (U.mks (us.take i) k0).2 + (0 + 1 + U.lfs a_1 + 1 + 1 + 1 + 1 + 1 + 1 + U.lfs a_2_4_2 + U.lfs a_2_5 + U.lfs a_2_6 + U.lfs a_2_7 + U.lfs a_2_8 : Nat) ≤ 4611686018427387904 := by omega
    clear hsnd hlfa hmid
    generalize (U.mks (us.take i) k0).2 = kk at hnext hkp hkb hge ⊢
    have hge : ms[i]? = some (.st [.s (txt (kk)), .sl 1 (U.mks a_1 (kk + 1)).1, .st [.i .i64 ((U.mks a_1 (kk + 1)).2), .s (txt ((U.mks a_1 (kk + 1)).2 + 1)), .s (txt ((U.mks a_1 (kk + 1)).2 + 1 + 1)), .i .i64 ((U.mks a_1 (kk + 1)).2 + 1 + 1 + 1), .st [.i .i64 ((U.mks a_1 (kk + 1)).2 + 1 + 1 + 1 + 1), .s (txt ((U.mks a_1 (kk + 1)).2 + 1 + 1 + 1 + 1 + 1)), .sl 3 (U.mks a_2_4_2 ((U.mks a_1 (kk + 1)).2 + 1 + 1 + 1 + 1 + 1 + 1)).1], .sl 3 (U.mks a_2_5 ((U.mks a_2_4_2 ((U.mks a_1 (kk + 1)).2 + 1 + 1 + 1 + 1 + 1 + 1)).2)).1, .sl 5 (U.mks a_2_6 ((U.mks a_2_5 ((U.mks a_2_4_2 ((U.mks a_1 (kk + 1)).2 + 1 + 1 + 1 + 1 + 1 + 1)).2)).2)).1, .sl 11 (U.mks a_2_7 ((U.mks a_2_6 ((U.mks a_2_5 ((U.mks a_2_4_2 ((U.mks a_1 (kk + 1)).2 + 1 + 1 + 1 + 1 + 1 + 1)).2)).2)).2)).1, .sl 13 (U.mks a_2_8 ((U.mks a_2_7 ((U.mks a_2_6 ((U.mks a_2_5 ((U.mks a_2_4_2 ((U.mks a_1 (kk + 1)).2 + 1 + 1 + 1 + 1 + 1 + 1)).2)).2)).2)).2)).1]]) := hge
    refine V_seq (V_block ?_)
    have ht0 := markText_all (kk) (by omega) (by omega)
    repeat (first | refine VO_d ?_ | refine VQ_d ?_ | (first | refine VO_q (Q_index rfl rfl TE.h TI.h (by omega) hge) rfl ?_ | refine VQ_q (Q_index rfl rfl TE.h TI.h (by omega) hge) rfl ?_ | (refine VO_bare rfl rfl rfl rfl ?_; refine VO_q (Q_index rfl rfl TE.h TI.h (by omega) hge) rfl ?_) | refine VQ_run rfl rfl rfl rfl (Q_index rfl rfl TE.h TI.h (by omega) hge) rfl ?_) | (first | refine VO_q (Q_call rfl ht0 (by (repeat (first | exact trivial | exact rfl | exact ⟨_, rfl⟩ | refine And.intro ?_ ?_)); first | done | fail)) rfl ?_ | refine VQ_q (Q_call rfl ht0 (by (repeat (first | exact trivial | exact rfl | exact ⟨_, rfl⟩ | refine And.intro ?_ ?_)); first | done | fail)) rfl ?_ | (refine VO_bare rfl rfl rfl rfl ?_; refine VO_q (Q_call rfl ht0 (by (repeat (first | exact trivial | exact rfl | exact ⟨_, rfl⟩ | refine And.intro ?_ ?_)); first | done | fail)) rfl ?_) | refine VQ_run rfl rfl rfl rfl (Q_call rfl ht0 (by (repeat (first | exact trivial | exact rfl | exact ⟨_, rfl⟩ | refine And.intro ?_ ?_)); first | done | fail)) rfl ?_) | (first | refine VO_nil ?_ | refine VQ_nil ?_) | (first | refine V_seq_region ?_ | refine V_seq (V_seq_region ?_) | refine V_seq_draw tmix (by kernel_rfl) ?_ | refine V_seq (V_seq_draw tmix (by kernel_rfl) ?_) | refine V_region ?_ | refine V_draw tmix (by kernel_rfl) ?_))
    (first | refine V_cond rfl (fun hc3 => ?_) (fun hc3 => ?_) | refine V_seq (V_cond rfl (fun hc3 => ?_) (fun hc3 => ?_)))
    · simp at hc3
    refine V_skip ?_
    clear hc3
    have hm1 := ih0 a_0 a_1 a_2_0 a_2_1 a_2_2 a_2_3 a_2_4_0 a_2_4_1 a_2_4_2 a_2_5 a_2_6 a_2_7 a_2_8 hmem (kk + 1) (by omega) (by simp only [U.lf]; omega)
    change SpecP _ _ [.d (.sl 1 (U.mks a_1 (kk + 1)).1), _] [.i .i64 (U.mks a_1 (kk + 1)).2] at hm1
    have hs1 := mks_snd a_1 (kk + 1)
    repeat (first | refine VO_d ?_ | refine VQ_d ?_ | (first | refine VO_q (Q_index rfl rfl TE.h TI.h (by omega) hge) rfl ?_ | refine VQ_q (Q_index rfl rfl TE.h TI.h (by omega) hge) rfl ?_ | (refine VO_bare rfl rfl rfl rfl ?_; refine VO_q (Q_index rfl rfl TE.h TI.h (by omega) hge) rfl ?_) | refine VQ_run rfl rfl rfl rfl (Q_index rfl rfl TE.h TI.h (by omega) hge) rfl ?_) | (first | refine VO_q (Q_call rfl hm1 (by (repeat (first | exact trivial | exact rfl | exact ⟨_, rfl⟩ | refine And.intro ?_ ?_)); first | done | fail)) rfl ?_ | refine VQ_q (Q_call rfl hm1 (by (repeat (first | exact trivial | exact rfl | exact ⟨_, rfl⟩ | refine And.intro ?_ ?_)); first | done | fail)) rfl ?_ | (refine VO_bare rfl rfl rfl rfl ?_; refine VO_q (Q_call rfl hm1 (by (repeat (first | exact trivial | exact rfl | exact ⟨_, rfl⟩ | refine And.intro ?_ ?_)); first | done | fail)) rfl ?_) | refine VQ_run rfl rfl rfl rfl (Q_call rfl hm1 (by (repeat (first | exact trivial | exact rfl | exact ⟨_, rfl⟩ | refine And.intro ?_ ?_)); first | done | fail)) rfl ?_) | (first | refine VO_nil ?_ | refine VQ_nil ?_) | (first | refine V_seq_region ?_ | refine V_seq (V_seq_region ?_) | refine V_seq_draw tmix (by kernel_rfl) ?_ | refine V_seq (V_seq_draw tmix (by kernel_rfl) ?_) | refine V_region ?_ | refine V_draw tmix (by kernel_rfl) ?_))
    (first | refine V_cond rfl (fun hc3 => ?_) (fun hc3 => ?_) | refine V_seq (V_cond rfl (fun hc3 => ?_) (fun hc3 => ?_)))
    · exfalso; simp only [decide_eq_true_eq] at hc3; change (U.mks a_1 (kk + 1)).2 < 0 at hc3; omega
    refine V_skip ?_
    clear hc3
    repeat (first | refine VO_d ?_ | refine VQ_d ?_ | (first | refine VO_q (Q_index rfl rfl TE.h TI.h (by omega) hge) rfl ?_ | refine VQ_q (Q_index rfl rfl TE.h TI.h (by omega) hge) rfl ?_ | (refine VO_bare rfl rfl rfl rfl ?_; refine VO_q (Q_index rfl rfl TE.h TI.h (by omega) hge) rfl ?_) | refine VQ_run rfl rfl rfl rfl (Q_index rfl rfl TE.h TI.h (by omega) hge) rfl ?_) | (first | refine VO_nil ?_ | refine VQ_nil ?_) | (first | refine V_seq_region ?_ | refine V_seq (V_seq_region ?_) | refine V_seq_draw tmix (by kernel_rfl) ?_ | refine V_seq (V_seq_draw tmix (by kernel_rfl) ?_) | refine V_region ?_ | refine V_draw tmix (by kernel_rfl) ?_))
    (first | refine V_cond rfl (fun hc3 => ?_) (fun hc3 => ?_) | refine V_seq (V_cond rfl (fun hc3 => ?_) (fun hc3 => ?_)))
    · simp at hc3
    refine V_skip ?_
    clear hc3
    have ht3 := markText_all ((U.mks a_1 (kk + 1)).2 + 1) (by omega) (by omega)
    repeat (first | refine VO_d ?_ | refine VQ_d ?_ | (first | refine VO_q (Q_index rfl rfl TE.h TI.h (by omega) hge) rfl ?_ | refine VQ_q (Q_index rfl rfl TE.h TI.h (by omega) hge) rfl ?_ | (refine VO_bare rfl rfl rfl rfl ?_; refine VO_q (Q_index rfl rfl TE.h TI.h (by omega) hge) rfl ?_) | refine VQ_run rfl rfl rfl rfl (Q_index rfl rfl TE.h TI.h (by omega) hge) rfl ?_) | (first | refine VO_q (Q_call rfl ht3 (by (repeat (first | exact trivial | exact rfl | exact ⟨_, rfl⟩ | refine And.intro ?_ ?_)); first | done | fail)) rfl ?_ | refine VQ_q (Q_call rfl ht3 (by (repeat (first | exact trivial | exact rfl | exact ⟨_, rfl⟩ | refine And.intro ?_ ?_)); first | done | fail)) rfl ?_ | (refine VO_bare rfl rfl rfl rfl ?_; refine VO_q (Q_call rfl ht3 (by (repeat (first | exact trivial | exact rfl | exact ⟨_, rfl⟩ | refine And.intro ?_ ?_)); first | done | fail)) rfl ?_) | refine VQ_run rfl rfl rfl rfl (Q_call rfl ht3 (by (repeat (first | exact trivial | exact rfl | exact ⟨_, rfl⟩ | refine And.intro ?_ ?_)); first | done | fail)) rfl ?_) | (first | refine VO_nil ?_ | refine VQ_nil ?_) | (first | refine V_seq_region ?_ | refine V_seq (V_seq_region ?_) | refine V_seq_draw tmix (by kernel_rfl) ?_ | refine V_seq (V_seq_draw tmix (by kernel_rfl) ?_) | refine V_region ?_ | refine V_draw tmix (by kernel_rfl) ?_))
    (first | refine V_cond rfl (fun hc3 => ?_) (fun hc3 => ?_) | refine V_seq (V_cond rfl (fun hc3 => ?_) (fun hc3 => ?_)))
    · simp at hc3
    refine V_skip ?_
    clear hc3
    have ht4 := markText_all ((U.mks a_1 (kk + 1)).2 + 1 + 1) (by omega) (by omega)
    repeat (first | refine VO_d ?_ | refine VQ_d ?_ | (first | refine VO_q (Q_index rfl rfl TE.h TI.h (by omega) hge) rfl ?_ | refine VQ_q (Q_index rfl rfl TE.h TI.h (by omega) hge) rfl ?_ | (refine VO_bare rfl rfl rfl rfl ?_; refine VO_q (Q_index rfl rfl TE.h TI.h (by omega) hge) rfl ?_) | refine VQ_run rfl rfl rfl rfl (Q_index rfl rfl TE.h TI.h (by omega) hge) rfl ?_) | (first | refine VO_q (Q_call rfl ht4 (by (repeat (first | exact trivial | exact rfl | exact ⟨_, rfl⟩ | refine And.intro ?_ ?_)); first | done | fail)) rfl ?_ | refine VQ_q (Q_call rfl ht4 (by (repeat (first | exact trivial | exact rfl | exact ⟨_, rfl⟩ | refine And.intro ?_ ?_)); first | done | fail)) rfl ?_ | (refine VO_bare rfl rfl rfl rfl ?_; refine VO_q (Q_call rfl ht4 (by (repeat (first | exact trivial | exact rfl | exact ⟨_, rfl⟩ | refine And.intro ?_ ?_)); first | done | fail)) rfl ?_) | refine VQ_run rfl rfl rfl rfl (Q_call rfl ht4 (by (repeat (first | exact trivial | exact rfl | exact ⟨_, rfl⟩ | refine And.intro ?_ ?_)); first | done | fail)) rfl ?_) | (first | refine VO_nil ?_ | refine VQ_nil ?_) | (first | refine V_seq_region ?_ | refine V_seq (V_seq_region ?_) | refine V_seq_draw tmix (by kernel_rfl) ?_ | refine V_seq (V_seq_draw tmix (by kernel_rfl) ?_) | refine V_region ?_ | refine V_draw tmix (by kernel_rfl) ?_))
    (first | refine V_cond rfl (fun hc3 => ?_) (fun hc3 => ?_) | refine V_seq (V_cond rfl (fun hc3 => ?_) (fun hc3 => ?_)))
    · simp at hc3
    refine V_skip ?_
    clear hc3
    repeat (first | refine VO_d ?_ | refine VQ_d ?_ | (first | refine VO_q (Q_index rfl rfl TE.h TI.h (by omega) hge) rfl ?_ | refine VQ_q (Q_index rfl rfl TE.h TI.h (by omega) hge) rfl ?_ | (refine VO_bare rfl rfl rfl rfl ?_; refine VO_q (Q_index rfl rfl TE.h TI.h (by omega) hge) rfl ?_) | refine VQ_run rfl rfl rfl rfl (Q_index rfl rfl TE.h TI.h (by omega) hge) rfl ?_) | (first | refine VO_nil ?_ | refine VQ_nil ?_) | (first | refine V_seq_region ?_ | refine V_seq (V_seq_region ?_) | refine V_seq_draw tmix (by kernel_rfl) ?_ | refine V_seq (V_seq_draw tmix (by kernel_rfl) ?_) | refine V_region ?_ | refine V_draw tmix (by kernel_rfl) ?_))
    (first | refine V_cond rfl (fun hc3 => ?_) (fun hc3 => ?_) | refine V_seq (V_cond rfl (fun hc3 => ?_) (fun hc3 => ?_)))
    · simp at hc3
    refine V_skip ?_
    clear hc3
    repeat (first | refine VO_d ?_ | refine VQ_d ?_ | (first | refine VO_q (Q_index rfl rfl TE.h TI.h (by omega) hge) rfl ?_ | refine VQ_q (Q_index rfl rfl TE.h TI.h (by omega) hge) rfl ?_ | (refine VO_bare rfl rfl rfl rfl ?_; refine VO_q (Q_index rfl rfl TE.h TI.h (by omega) hge) rfl ?_) | refine VQ_run rfl rfl rfl rfl (Q_index rfl rfl TE.h TI.h (by omega) hge) rfl ?_) | (first | refine VO_nil ?_ | refine VQ_nil ?_) | (first | refine V_seq_region ?_ | refine V_seq (V_seq_region ?_) | refine V_seq_draw tmix (by kernel_rfl) ?_ | refine V_seq (V_seq_draw tmix (by kernel_rfl) ?_) | refine V_region ?_ | refine V_draw tmix (by kernel_rfl) ?_))
    (first | refine V_cond rfl (fun hc3 => ?_) (fun hc3 => ?_) | refine V_seq (V_cond rfl (fun hc3 => ?_) (fun hc3 => ?_)))
    · simp at hc3
    refine V_skip ?_
    clear hc3
    have ht7 := markText_all ((U.mks a_1 (kk + 1)).2 + 1 + 1 + 1 + 1 + 1) (by omega) (by omega)
    repeat (first | refine VO_d ?_ | refine VQ_d ?_ | (first | refine VO_q (Q_index rfl rfl TE.h TI.h (by omega) hge) rfl ?_ | refine VQ_q (Q_index rfl rfl TE.h TI.h (by omega) hge) rfl ?_ | (refine VO_bare rfl rfl rfl rfl ?_; refine VO_q (Q_index rfl rfl TE.h TI.h (by omega) hge) rfl ?_) | refine VQ_run rfl rfl rfl rfl (Q_index rfl rfl TE.h TI.h (by omega) hge) rfl ?_) | (first | refine VO_q (Q_call rfl ht7 (by (repeat (first | exact trivial | exact rfl | exact ⟨_, rfl⟩ | refine And.intro ?_ ?_)); first | done | fail)) rfl ?_ | refine VQ_q (Q_call rfl ht7 (by (repeat (first | exact trivial | exact rfl | exact ⟨_, rfl⟩ | refine And.intro ?_ ?_)); first | done | fail)) rfl ?_ | (refine VO_bare rfl rfl rfl rfl ?_; refine VO_q (Q_call rfl ht7 (by (repeat (first | exact trivial | exact rfl | exact ⟨_, rfl⟩ | refine And.intro ?_ ?_)); first | done | fail)) rfl ?_) | refine VQ_run rfl rfl rfl rfl (Q_call rfl ht7 (by (repeat (first | exact trivial | exact rfl | exact ⟨_, rfl⟩ | refine And.intro ?_ ?_)); first | done | fail)) rfl ?_) | (first | refine VO_nil ?_ | refine VQ_nil ?_) | (first | refine V_seq_region ?_ | refine V_seq (V_seq_region ?_) | refine V_seq_draw tmix (by kernel_rfl) ?_ | refine V_seq (V_seq_draw tmix (by kernel_rfl) ?_) | refine V_region ?_ | refine V_draw tmix (by kernel_rfl) ?_))
    (first | refine V_cond rfl (fun hc3 => ?_) (fun hc3 => ?_) | refine V_seq (V_cond rfl (fun hc3 => ?_) (fun hc3 => ?_)))
    · simp at hc3
    refine V_skip ?_
    clear hc3
    have hm8 := ih1 a_0 a_1 a_2_0 a_2_1 a_2_2 a_2_3 a_2_4_0 a_2_4_1 a_2_4_2 a_2_5 a_2_6 a_2_7 a_2_8 hmem ((U.mks a_1 (kk + 1)).2 + 1 + 1 + 1 + 1 + 1 + 1) (by omega) (by simp only [U.lf]; omega)
    change SpecP _ _ [.d (.sl 3 (U.mks a_2_4_2 ((U.mks a_1 (kk + 1)).2 + 1 + 1 + 1 + 1 + 1 + 1)).1), _] [.i .i64 (U.mks a_2_4_2 ((U.mks a_1 (kk + 1)).2 + 1 + 1 + 1 + 1 + 1 + 1)).2] at hm8
    have hs8 := mks_snd a_2_4_2 ((U.mks a_1 (kk + 1)).2 + 1 + 1 + 1 + 1 + 1 + 1)
    repeat (first | refine VO_d ?_ | refine VQ_d ?_ | (first | refine VO_q (Q_index rfl rfl TE.h TI.h (by omega) hge) rfl ?_ | refine VQ_q (Q_index rfl rfl TE.h TI.h (by omega) hge) rfl ?_ | (refine VO_bare rfl rfl rfl rfl ?_; refine VO_q (Q_index rfl rfl TE.h TI.h (by omega) hge) rfl ?_) | refine VQ_run rfl rfl rfl rfl (Q_index rfl rfl TE.h TI.h (by omega) hge) rfl ?_) | (first | refine VO_q (Q_call rfl hm8 (by (repeat (first | exact trivial | exact rfl | exact ⟨_, rfl⟩ | refine And.intro ?_ ?_)); first | done | fail)) rfl ?_ | refine VQ_q (Q_call rfl hm8 (by (repeat (first | exact trivial | exact rfl | exact ⟨_, rfl⟩ | refine And.intro ?_ ?_)); first | done | fail)) rfl ?_ | (refine VO_bare rfl rfl rfl rfl ?_; refine VO_q (Q_call rfl hm8 (by (repeat (first | exact trivial | exact rfl | exact ⟨_, rfl⟩ | refine And.intro ?_ ?_)); first | done | fail)) rfl ?_) | refine VQ_run rfl rfl rfl rfl (Q_call rfl hm8 (by (repeat (first | exact trivial | exact rfl | exact ⟨_, rfl⟩ | refine And.intro ?_ ?_)); first | done | fail)) rfl ?_) | (first | refine VO_nil ?_ | refine VQ_nil ?_) | (first | refine V_seq_region ?_ | refine V_seq (V_seq_region ?_) | refine V_seq_draw tmix (by kernel_rfl) ?_ | refine V_seq (V_seq_draw tmix (by kernel_rfl) ?_) | refine V_region ?_ | refine V_draw tmix (by kernel_rfl) ?_))
    (first | refine V_cond rfl (fun hc3 => ?_) (fun hc3 => ?_) | refine V_seq (V_cond rfl (fun hc3 => ?_) (fun hc3 => ?_)))
    · exfalso; simp only [decide_eq_true_eq] at hc3; change (U.mks a_2_4_2 ((U.mks a_1 (kk + 1)).2 + 1 + 1 + 1 + 1 + 1 + 1)).2 < 0 at hc3; omega
    refine V_skip ?_
    clear hc3
    have hm9 := ih2 a_0 a_1 a_2_0 a_2_1 a_2_2 a_2_3 a_2_4_0 a_2_4_1 a_2_4_2 a_2_5 a_2_6 a_2_7 a_2_8 hmem ((U.mks a_2_4_2 ((U.mks a_1 (kk + 1)).2 + 1 + 1 + 1 + 1 + 1 + 1)).2) (by omega) (by simp only [U.lf]; omega)
    change SpecP _ _ [.d (.sl 3 (U.mks a_2_5 ((U.mks a_2_4_2 ((U.mks a_1 (kk + 1)).2 + 1 + 1 + 1 + 1 + 1 + 1)).2)).1), _] [.i .i64 (U.mks a_2_5 ((U.mks a_2_4_2 ((U.mks a_1 (kk + 1)).2 + 1 + 1 + 1 + 1 + 1 + 1)).2)).2] at hm9
    have hs9 := mks_snd a_2_5 ((U.mks a_2_4_2 ((U.mks a_1 (kk + 1)).2 + 1 + 1 + 1 + 1 + 1 + 1)).2)
    repeat (first | refine VO_d ?_ | refine VQ_d ?_ | (first | refine VO_q (Q_index rfl rfl TE.h TI.h (by omega) hge) rfl ?_ | refine VQ_q (Q_index rfl rfl TE.h TI.h (by omega) hge) rfl ?_ | (refine VO_bare rfl rfl rfl rfl ?_; refine VO_q (Q_index rfl rfl TE.h TI.h (by omega) hge) rfl ?_) | refine VQ_run rfl rfl rfl rfl (Q_index rfl rfl TE.h TI.h (by omega) hge) rfl ?_) | (first | refine VO_q (Q_call rfl hm9 (by (repeat (first | exact trivial | exact rfl | exact ⟨_, rfl⟩ | refine And.intro ?_ ?_)); first | done | fail)) rfl ?_ | refine VQ_q (Q_call rfl hm9 (by (repeat (first | exact trivial | exact rfl | exact ⟨_, rfl⟩ | refine And.intro ?_ ?_)); first | done | fail)) rfl ?_ | (refine VO_bare rfl rfl rfl rfl ?_; refine VO_q (Q_call rfl hm9 (by (repeat (first | exact trivial | exact rfl | exact ⟨_, rfl⟩ | refine And.intro ?_ ?_)); first | done | fail)) rfl ?_) | refine VQ_run rfl rfl rfl rfl (Q_call rfl hm9 (by (repeat (first | exact trivial | exact rfl | exact ⟨_, rfl⟩ | refine And.intro ?_ ?_)); first | done | fail)) rfl ?_) | (first | refine VO_nil ?_ | refine VQ_nil ?_) | (first | refine V_seq_region ?_ | refine V_seq (V_seq_region ?_) | refine V_seq_draw tmix (by kernel_rfl) ?_ | refine V_seq (V_seq_draw tmix (by kernel_rfl) ?_) | refine V_region ?_ | refine V_draw tmix (by kernel_rfl) ?_))
    (first | refine V_cond rfl (fun hc3 => ?_) (fun hc3 => ?_) | refine V_seq (V_cond rfl (fun hc3 => ?_) (fun hc3 => ?_)))
    · exfalso; simp only [decide_eq_true_eq] at hc3; change (U.mks a_2_5 ((U.mks a_2_4_2 ((U.mks a_1 (kk + 1)).2 + 1 + 1 + 1 + 1 + 1 + 1)).2)).2 < 0 at hc3; omega
    refine V_skip ?_
    clear hc3
    have hm10 := ih3 a_0 a_1 a_2_0 a_2_1 a_2_2 a_2_3 a_2_4_0 a_2_4_1 a_2_4_2 a_2_5 a_2_6 a_2_7 a_2_8 hmem ((U.mks a_2_5 ((U.mks a_2_4_2 ((U.mks a_1 (kk + 1)).2 + 1 + 1 + 1 + 1 + 1 + 1)).2)).2) (by omega) (by simp only [U.lf]; omega)
    change SpecP _ _ [.d (.sl 5 (U.mks a_2_6 ((U.mks a_2_5 ((U.mks a_2_4_2 ((U.mks a_1 (kk + 1)).2 + 1 + 1 + 1 + 1 + 1 + 1)).2)).2)).1), _] [.i .i64 (U.mks a_2_6 ((U.mks a_2_5 ((U.mks a_2_4_2 ((U.mks a_1 (kk + 1)).2 + 1 + 1 + 1 + 1 + 1 + 1)).2)).2)).2] at hm10
    have hs10 := mks_snd a_2_6 ((U.mks a_2_5 ((U.mks a_2_4_2 ((U.mks a_1 (kk + 1)).2 + 1 + 1 + 1 + 1 + 1 + 1)).2)).2)
    repeat (first | refine VO_d ?_ | refine VQ_d ?_ | (first | refine VO_q (Q_index rfl rfl TE.h TI.h (by omega) hge) rfl ?_ | refine VQ_q (Q_index rfl rfl TE.h TI.h (by omega) hge) rfl ?_ | (refine VO_bare rfl rfl rfl rfl ?_; refine VO_q (Q_index rfl rfl TE.h TI.h (by omega) hge) rfl ?_) | refine VQ_run rfl rfl rfl rfl (Q_index rfl rfl TE.h TI.h (by omega) hge) rfl ?_) | (first | refine VO_q (Q_call rfl hm10 (by (repeat (first | exact trivial | exact rfl | exact ⟨_, rfl⟩ | refine And.intro ?_ ?_)); first | done | fail)) rfl ?_ | refine VQ_q (Q_call rfl hm10 (by (repeat (first | exact trivial | exact rfl | exact ⟨_, rfl⟩ | refine And.intro ?_ ?_)); first | done | fail)) rfl ?_ | (refine VO_bare rfl rfl rfl rfl ?_; refine VO_q (Q_call rfl hm10 (by (repeat (first | exact trivial | exact rfl | exact ⟨_, rfl⟩ | refine And.intro ?_ ?_)); first | done | fail)) rfl ?_) | refine VQ_run rfl rfl rfl rfl (Q_call rfl hm10 (by (repeat (first | exact trivial | exact rfl | exact ⟨_, rfl⟩ | refine And.intro ?_ ?_)); first | done | fail)) rfl ?_) | (first | refine VO_nil ?_ | refine VQ_nil ?_) | (first | refine V_seq_region ?_ | refine V_seq (V_seq_region ?_) | refine V_seq_draw tmix (by kernel_rfl) ?_ | refine V_seq (V_seq_draw tmix (by kernel_rfl) ?_) | refine V_region ?_ | refine V_draw tmix (by kernel_rfl) ?_))
    (first | refine V_cond rfl (fun hc3 => ?_) (fun hc3 => ?_) | refine V_seq (V_cond rfl (fun hc3 => ?_) (fun hc3 => ?_)))
    · exfalso; simp only [decide_eq_true_eq] at hc3; change (U.mks a_2_6 ((U.mks a_2_5 ((U.mks a_2_4_2 ((U.mks a_1 (kk + 1)).2 + 1 + 1 + 1 + 1 + 1 + 1)).2)).2)).2 < 0 at hc3; omega
    refine V_skip ?_
    clear hc3
    have hm11 := ih4 a_0 a_1 a_2_0 a_2_1 a_2_2 a_2_3 a_2_4_0 a_2_4_1 a_2_4_2 a_2_5 a_2_6 a_2_7 a_2_8 hmem ((U.mks a_2_6 ((U.mks a_2_5 ((U.mks a_2_4_2 ((U.mks a_1 (kk + 1)).2 + 1 + 1 + 1 + 1 + 1 + 1)).2)).2)).2) (by omega) (by simp only [U.lf]; omega)
    change SpecP _ _ [.d (.sl 11 (U.mks a_2_7 ((U.mks a_2_6 ((U.mks a_2_5 ((U.mks a_2_4_2 ((U.mks a_1 (kk + 1)).2 + 1 + 1 + 1 + 1 + 1 + 1)).2)).2)).2)).1), _] [.i .i64 (U.mks a_2_7 ((U.mks a_2_6 ((U.mks a_2_5 ((U.mks a_2_4_2 ((U.mks a_1 (kk + 1)).2 + 1 + 1 + 1 + 1 + 1 + 1)).2)).2)).2)).2] at hm11
    have hs11 := mks_snd a_2_7 ((U.mks a_2_6 ((U.mks a_2_5 ((U.mks a_2_4_2 ((U.mks a_1 (kk + 1)).2 + 1 + 1 + 1 + 1 + 1 + 1)).2)).2)).2)
    repeat (first | refine VO_d ?_ | refine VQ_d ?_ | (first | refine VO_q (Q_index rfl rfl TE.h TI.h (by omega) hge) rfl ?_ | refine VQ_q (Q_index rfl rfl TE.h TI.h (by omega) hge) rfl ?_ | (refine VO_bare rfl rfl rfl rfl ?_; refine VO_q (Q_index rfl rfl TE.h TI.h (by omega) hge) rfl ?_) | refine VQ_run rfl rfl rfl rfl (Q_index rfl rfl TE.h TI.h (by omega) hge) rfl ?_) | (first | refine VO_q (Q_call rfl hm11 (by (repeat (first | exact trivial | exact rfl | exact ⟨_, rfl⟩ | refine And.intro ?_ ?_)); first | done | fail)) rfl ?_ | refine VQ_q (Q_call rfl hm11 (by (repeat (first | exact trivial | exact rfl | exact ⟨_, rfl⟩ | refine And.intro ?_ ?_)); first | done | fail)) rfl ?_ | (refine VO_bare rfl rfl rfl rfl ?_; refine VO_q (Q_call rfl hm11 (by (repeat (first | exact trivial | exact rfl | exact ⟨_, rfl⟩ | refine And.intro ?_ ?_)); first | done | fail)) rfl ?_) | refine VQ_run rfl rfl rfl rfl (Q_call rfl hm11 (by (repeat (first | exact trivial | exact rfl | exact ⟨_, rfl⟩ | refine And.intro ?_ ?_)); first | done | fail)) rfl ?_) | (first | refine VO_nil ?_ | refine VQ_nil ?_) | (first | refine V_seq_region ?_ | refine V_seq (V_seq_region ?_) | refine V_seq_draw tmix (by kernel_rfl) ?_ | refine V_seq (V_seq_draw tmix (by kernel_rfl) ?_) | refine V_region ?_ | refine V_draw tmix (by kernel_rfl) ?_))
    (first | refine V_cond rfl (fun hc3 => ?_) (fun hc3 => ?_) | refine V_seq (V_cond rfl (fun hc3 => ?_) (fun hc3 => ?_)))
    · exfalso; simp only [decide_eq_true_eq] at hc3; change (U.mks a_2_7 ((U.mks a_2_6 ((U.mks a_2_5 ((U.mks a_2_4_2 ((U.mks a_1 (kk + 1)).2 + 1 + 1 + 1 + 1 + 1 + 1)).2)).2)).2)).2 < 0 at hc3; omega
    refine V_skip ?_
    clear hc3
    have hm12 := ih5 a_0 a_1 a_2_0 a_2_1 a_2_2 a_2_3 a_2_4_0 a_2_4_1 a_2_4_2 a_2_5 a_2_6 a_2_7 a_2_8 hmem ((U.mks a_2_7 ((U.mks a_2_6 ((U.mks a_2_5 ((U.mks a_2_4_2 ((U.mks a_1 (kk + 1)).2 + 1 + 1 + 1 + 1 + 1 + 1)).2)).2)).2)).2) (by omega) (by simp only [U.lf]; omega)
    change SpecP _ _ [.d (.sl 13 (U.mks a_2_8 ((U.mks a_2_7 ((U.mks a_2_6 ((U.mks a_2_5 ((U.mks a_2_4_2 ((U.mks a_1 (kk + 1)).2 + 1 + 1 + 1 + 1 + 1 + 1)).2)).2)).2)).2)).1), _] [.i .i64 (U.mks a_2_8 ((U.mks a_2_7 ((U.mks a_2_6 ((U.mks a_2_5 ((U.mks a_2_4_2 ((U.mks a_1 (kk + 1)).2 + 1 + 1 + 1 + 1 + 1 + 1)).2)).2)).2)).2)).2] at hm12
    have hs12 := mks_snd a_2_8 ((U.mks a_2_7 ((U.mks a_2_6 ((U.mks a_2_5 ((U.mks a_2_4_2 ((U.mks a_1 (kk + 1)).2 + 1 + 1 + 1 + 1 + 1 + 1)).2)).2)).2)).2)
    repeat (first | refine VO_d ?_ | refine VQ_d ?_ | (first | refine VO_q (Q_index rfl rfl TE.h TI.h (by omega) hge) rfl ?_ | refine VQ_q (Q_index rfl rfl TE.h TI.h (by omega) hge) rfl ?_ | (refine VO_bare rfl rfl rfl rfl ?_; refine VO_q (Q_index rfl rfl TE.h TI.h (by omega) hge) rfl ?_) | refine VQ_run rfl rfl rfl rfl (Q_index rfl rfl TE.h TI.h (by omega) hge) rfl ?_) | (first | refine VO_q (Q_call rfl hm12 (by (repeat (first | exact trivial | exact rfl | exact ⟨_, rfl⟩ | refine And.intro ?_ ?_)); first | done | fail)) rfl ?_ | refine VQ_q (Q_call rfl hm12 (by (repeat (first | exact trivial | exact rfl | exact ⟨_, rfl⟩ | refine And.intro ?_ ?_)); first | done | fail)) rfl ?_ | (refine VO_bare rfl rfl rfl rfl ?_; refine VO_q (Q_call rfl hm12 (by (repeat (first | exact trivial | exact rfl | exact ⟨_, rfl⟩ | refine And.intro ?_ ?_)); first | done | fail)) rfl ?_) | refine VQ_run rfl rfl rfl rfl (Q_call rfl hm12 (by (repeat (first | exact trivial | exact rfl | exact ⟨_, rfl⟩ | refine And.intro ?_ ?_)); first | done | fail)) rfl ?_) | (first | refine VO_nil ?_ | refine VQ_nil ?_) | (first | refine V_seq_region ?_ | refine V_seq (V_seq_region ?_) | refine V_seq_draw tmix (by kernel_rfl) ?_ | refine V_seq (V_seq_draw tmix (by kernel_rfl) ?_) | refine V_region ?_ | refine V_draw tmix (by kernel_rfl) ?_))
    (first | refine V_cond rfl (fun hc3 => ?_) (fun hc3 => ?_) | refine V_seq (V_cond rfl (fun hc3 => ?_) (fun hc3 => ?_)))
    · exfalso; simp only [decide_eq_true_eq] at hc3; change (U.mks a_2_8 ((U.mks a_2_7 ((U.mks a_2_6 ((U.mks a_2_5 ((U.mks a_2_4_2 ((U.mks a_1 (kk + 1)).2 + 1 + 1 + 1 + 1 + 1 + 1)).2)).2)).2)).2)).2 < 0 at hc3; omega
    refine V_skip ?_
    clear hc3
    repeat (first | refine VO_d ?_ | refine VQ_d ?_  | (first | refine VO_nil ?_ | refine VQ_nil ?_) | (first | refine V_seq_region ?_ | refine V_seq (V_seq_region ?_) | refine V_seq_draw tmix (by kernel_rfl) ?_ | refine V_seq (V_seq_draw tmix (by kernel_rfl) ?_) | refine V_region ?_ | refine V_draw tmix (by kernel_rfl) ?_))
    refine ⟨i + 1, by omega, by omega, ⟨rfl, ⟨⟨rfl, rfl⟩, ⟨?_, rfl⟩, ⟨rfl, rfl⟩, trivial⟩, ⟨[], rfl⟩, rfl⟩⟩
    rw [hnext]
    rfl
  · refine V_exit ?_
    simp only [decide_eq_false_iff_not] at hc2
    have hkl : i = us.length := by omega
    subst hkl
    show V _ _ _ _ _
    repeat (first | refine VO_d ?_ | refine VQ_d ?_  | (first | refine VO_nil ?_ | refine VQ_nil ?_) | (first | refine V_seq_region ?_ | refine V_seq (V_seq_region ?_) | refine V_seq_draw tmix (by kernel_rfl) ?_ | refine V_seq (V_seq_draw tmix (by kernel_rfl) ?_) | refine V_region ?_ | refine V_draw tmix (by kernel_rfl) ?_))
    refine V_ret ?_
    refine ⟨trivial, ⟨_, rfl, ?_⟩, trivial⟩
    rw [List.take_length]
    exact rfl

set_option maxHeartbeats 8000000 in
theorem heldCoreS_step {us : List U} (hl : us.length ≤ big) (hz : ∀ a ∈ us, wt (.st 21) a) (ih0 : ∀ (a_0 : Int) (a_1 : List UInt8) (a_2 : List UInt8) (a_3 : Int) (a_4_0 : Int) (a_4_1 : List UInt8) (a_4_2 : List U) (a_5 : List U) (a_6 : List U) (a_7 : List U) (a_8 : List U), .st [.i .i64 a_0, .s a_1, .s a_2, .i .i64 a_3, .st [.i .i64 a_4_0, .s a_4_1, .sl 3 a_4_2], .sl 3 a_5, .sl 5 a_6, .sl 11 a_7, .sl 13 a_8] ∈ us → PHe 44 (.sl 3 a_4_2)) (ih1 : ∀ (a_0 : Int) (a_1 : List UInt8) (a_2 : List UInt8) (a_3 : Int) (a_4_0 : Int) (a_4_1 : List UInt8) (a_4_2 : List U) (a_5 : List U) (a_6 : List U) (a_7 : List U) (a_8 : List U), .st [.i .i64 a_0, .s a_1, .s a_2, .i .i64 a_3, .st [.i .i64 a_4_0, .s a_4_1, .sl 3 a_4_2], .sl 3 a_5, .sl 5 a_6, .sl 11 a_7, .sl 13 a_8] ∈ us → PHe 44 (.sl 3 a_5)) (ih2 : ∀ (a_0 : Int) (a_1 : List UInt8) (a_2 : List UInt8) (a_3 : Int) (a_4_0 : Int) (a_4_1 : List UInt8) (a_4_2 : List U) (a_5 : List U) (a_6 : List U) (a_7 : List U) (a_8 : List U), .st [.i .i64 a_0, .s a_1, .s a_2, .i .i64 a_3, .st [.i .i64 a_4_0, .s a_4_1, .sl 3 a_4_2], .sl 3 a_5, .sl 5 a_6, .sl 11 a_7, .sl 13 a_8] ∈ us → PHe 67 (.sl 5 a_6)) (ih3 : ∀ (a_0 : Int) (a_1 : List UInt8) (a_2 : List UInt8) (a_3 : Int) (a_4_0 : Int) (a_4_1 : List UInt8) (a_4_2 : List U) (a_5 : List U) (a_6 : List U) (a_7 : List U) (a_8 : List U), .st [.i .i64 a_0, .s a_1, .s a_2, .i .i64 a_3, .st [.i .i64 a_4_0, .s a_4_1, .sl 3 a_4_2], .sl 3 a_5, .sl 5 a_6, .sl 11 a_7, .sl 13 a_8] ∈ us → PHe 68 (.sl 11 a_7)) (ih4 : ∀ (a_0 : Int) (a_1 : List UInt8) (a_2 : List UInt8) (a_3 : Int) (a_4_0 : Int) (a_4_1 : List UInt8) (a_4_2 : List U) (a_5 : List U) (a_6 : List U) (a_7 : List U) (a_8 : List U), .st [.i .i64 a_0, .s a_1, .s a_2, .i .i64 a_3, .st [.i .i64 a_4_0, .s a_4_1, .sl 3 a_4_2], .sl 3 a_5, .sl 5 a_6, .sl 11 a_7, .sl 13 a_8] ∈ us → PHe 69 (.sl 13 a_8)) : PHe 68 (.sl 11 us) := by
  intro k0 hk0 hk1
  have hlf : (U.sl 11 us).lf = U.lfs us := rfl
  rw [hlf] at hk1
  rw [big_eq] at hl
  show SpecP _ _ [.d (.sl 11 (U.mks us k0).1), .d (.i .i64 k0)] [.i .i64 (U.mks us k0).2]
  obtain ⟨ms, hms⟩ : ∃ ms, (U.mks us k0).1 = ms := ⟨_, rfl⟩
  have hml : ms.length = us.length := by rw [← hms, mks_len]
  have hel : ∀ (i : Nat) (a : U), us[i]? = some a → ms[i]? = some (a.mk (U.mks (us.take i) k0).2).1 := fun i a h => by rw [← hms]; exact mks_get h k0
  rw [hms]
  refine SpecP_intro Try.func68 rfl (by kernel_rfl) rfl fun A _ => ?_
  repeat (first | refine VO_d ?_ | refine VQ_d ?_  | (first | refine VO_nil ?_ | refine VQ_nil ?_) | (first | refine V_seq_region ?_ | refine V_seq (V_seq_region ?_) | refine V_seq_draw tmix (by kernel_rfl) ?_ | refine V_seq (V_seq_draw tmix (by kernel_rfl) ?_) | refine V_region ?_ | refine V_draw tmix (by kernel_rfl) ?_))
  refine V_block ?_
  refine V_loop (α := Nat)
    (fun i => ⟨[(0, .d (.sl 11 ms)), (1, .d (.i .i64 (U.mks (us.take i) k0).2)), (5, .d (.i .i64 i))], [], Try.f68.ntmps⟩)
    (fun i => i ≤ us.length)
    (fun i => us.length - i) 0 ⟨rfl, ⟨⟨rfl, rfl⟩, ⟨rfl, rfl⟩, ⟨rfl, rfl⟩, trivial⟩, ⟨[], rfl⟩, rfl⟩ (by simp) ?_
  intro i hi
  repeat (first | refine VO_d ?_ | refine VQ_d ?_  | (first | refine VO_nil ?_ | refine VQ_nil ?_) | (first | refine V_seq_region ?_ | refine V_seq (V_seq_region ?_) | refine V_seq_draw tmix (by kernel_rfl) ?_ | refine V_seq (V_seq_draw tmix (by kernel_rfl) ?_) | refine V_region ?_ | refine V_draw tmix (by kernel_rfl) ?_))
  (first | refine V_cond rfl (fun hc2 => ?_) (fun hc2 => ?_) | refine V_seq (V_cond rfl (fun hc2 => ?_) (fun hc2 => ?_)))
  · refine V_skip ?_
    simp only [decide_eq_true_eq] at hc2
    have hil : i < us.length := by omega
    obtain ⟨a, hget⟩ : ∃ a, us[i]? = some a := ⟨_, List.getElem?_eq_getElem hil⟩
    have hmem := List.mem_of_getElem? hget
    have hnext := (mks_next hget k0).2
    have hmid := lfs_mid hget
    have hsnd := mks_snd (us.take i) k0
    have hge := hel i a hget
    have hwa := hz a hmem
    obtain ⟨a_0, a_1, a_2, a_3, a_4, a_5, a_6, a_7, a_8, rfl, hwa_0, hwa_1, hwa_2, hwa_3, hwa_4, hwa_5, hwa_6, hwa_7, hwa_8⟩ := inv_Core hwa
    obtain ⟨a_4_0, a_4_1, a_4_2, rfl, hwa_4_0, hwa_4_1, hwa_4_2⟩ := inv_Type hwa_4
    have hlfa : ((.st [.i .i64 a_0, .s a_1, .s a_2, .i .i64 a_3, .st [.i .i64 a_4_0, .s a_4_1, .sl 3 a_4_2], .sl 3 a_5, .sl 5 a_6, .sl 11 a_7, .sl 13 a_8]) : U).lf = 0 + 1 + 1 + 1 + 1 + 1 + 1 + U.lfs a_4_2 + U.lfs a_5 + U.lfs a_6 + U.lfs a_7 + U.lfs a_8 := by simp [U.lf, U.lfs]; omega
    rw [hlfa] at hmid
    have hkp : 0 < (U.mks (us.take i) k0).2 := by omega
    have hkb : (U.mks (us.take i) k0).2 + (0 + 1 + 1 + 1 + 1 + 1 + 1 + U.lfs a_4_2 + U.lfs a_5 + U.lfs a_6 + U.lfs a_7 + U.lfs a_8 : Nat) ≤ 4611686018427387904 := by omega
    clear hsnd hlfa hmid
    generalize (U.mks (us.take i) k0).2 = kk at hnext hkp hkb hge ⊢
    have hge : ms[i]? = some (.st [.i .i64 (kk), .s (txt (kk + 1)), .s (txt (kk + 1 + 1)), .i .i64 (kk + 1 + 1 + 1), .st [.i .i64 (kk + 1 + 1 + 1 + 1), .s (txt (kk + 1 + 1 + 1 + 1 + 1)), .sl 3 (U.mks a_4_2 (kk + 1 + 1 + 1 + 1 + 1 + 1)).1], .sl 3 (U.mks a_5 ((U.mks a_4_2 (kk + 1 + 1 + 1 + 1 + 1 + 1)).2)).1, .sl 5 (U.mks a_6 ((U.mks a_5 ((U.mks a_4_2 (kk + 1 + 1 + 1 + 1 + 1 + 1)).2)).2)).1, .sl 11 (U.mks a_7 ((U.mks a_6 ((U.mks a_5 ((U.mks a_4_2 (kk + 1 + 1 + 1 + 1 + 1 + 1)).2)).2)).2)).1, .sl 13 (U.mks a_8 ((U.mks a_7 ((U.mks a_6 ((U.mks a_5 ((U.mks a_4_2 (kk + 1 + 1 + 1 + 1 + 1 + 1)).2)).2)).2)).2)).1]) := hge
    refine V_seq (V_block ?_)
    repeat (first | refine VO_d ?_ | refine VQ_d ?_ | (first | refine VO_q (Q_index rfl rfl TE.h TI.h (by omega) hge) rfl ?_ | refine VQ_q (Q_index rfl rfl TE.h TI.h (by omega) hge) rfl ?_ | (refine VO_bare rfl rfl rfl rfl ?_; refine VO_q (Q_index rfl rfl TE.h TI.h (by omega) hge) rfl ?_) | refine VQ_run rfl rfl rfl rfl (Q_index rfl rfl TE.h TI.h (by omega) hge) rfl ?_) | (first | refine VO_nil ?_ | refine VQ_nil ?_) | (first | refine V_seq_region ?_ | refine V_seq (V_seq_region ?_) | refine V_seq_draw tmix (by kernel_rfl) ?_ | refine V_seq (V_seq_draw tmix (by kernel_rfl) ?_) | refine V_region ?_ | refine V_draw tmix (by kernel_rfl) ?_))
    (first | refine V_cond rfl (fun hc3 => ?_) (fun hc3 => ?_) | refine V_seq (V_cond rfl (fun hc3 => ?_) (fun hc3 => ?_)))
    · simp at hc3
    refine V_skip ?_
    clear hc3
    have ht1 := markText_all (kk + 1) (by omega) (by omega)
    repeat (first | refine VO_d ?_ | refine VQ_d ?_ | (first | refine VO_q (Q_index rfl rfl TE.h TI.h (by omega) hge) rfl ?_ | refine VQ_q (Q_index rfl rfl TE.h TI.h (by omega) hge) rfl ?_ | (refine VO_bare rfl rfl rfl rfl ?_; refine VO_q (Q_index rfl rfl TE.h TI.h (by omega) hge) rfl ?_) | refine VQ_run rfl rfl rfl rfl (Q_index rfl rfl TE.h TI.h (by omega) hge) rfl ?_) | (first | refine VO_q (Q_call rfl ht1 (by (repeat (first | exact trivial | exact rfl | exact ⟨_, rfl⟩ | refine And.intro ?_ ?_)); first | done | fail)) rfl ?_ | refine VQ_q (Q_call rfl ht1 (by (repeat (first | exact trivial | exact rfl | exact ⟨_, rfl⟩ | refine And.intro ?_ ?_)); first | done | fail)) rfl ?_ | (refine VO_bare rfl rfl rfl rfl ?_; refine VO_q (Q_call rfl ht1 (by (repeat (first | exact trivial | exact rfl | exact ⟨_, rfl⟩ | refine And.intro ?_ ?_)); first | done | fail)) rfl ?_) | refine VQ_run rfl rfl rfl rfl (Q_call rfl ht1 (by (repeat (first | exact trivial | exact rfl | exact ⟨_, rfl⟩ | refine And.intro ?_ ?_)); first | done | fail)) rfl ?_) | (first | refine VO_nil ?_ | refine VQ_nil ?_) | (first | refine V_seq_region ?_ | refine V_seq (V_seq_region ?_) | refine V_seq_draw tmix (by kernel_rfl) ?_ | refine V_seq (V_seq_draw tmix (by kernel_rfl) ?_) | refine V_region ?_ | refine V_draw tmix (by kernel_rfl) ?_))
    (first | refine V_cond rfl (fun hc3 => ?_) (fun hc3 => ?_) | refine V_seq (V_cond rfl (fun hc3 => ?_) (fun hc3 => ?_)))
    · simp at hc3
    refine V_skip ?_
    clear hc3
    have ht2 := markText_all (kk + 1 + 1) (by omega) (by omega)
    repeat (first | refine VO_d ?_ | refine VQ_d ?_ | (first | refine VO_q (Q_index rfl rfl TE.h TI.h (by omega) hge) rfl ?_ | refine VQ_q (Q_index rfl rfl TE.h TI.h (by omega) hge) rfl ?_ | (refine VO_bare rfl rfl rfl rfl ?_; refine VO_q (Q_index rfl rfl TE.h TI.h (by omega) hge) rfl ?_) | refine VQ_run rfl rfl rfl rfl (Q_index rfl rfl TE.h TI.h (by omega) hge) rfl ?_) | (first | refine VO_q (Q_call rfl ht2 (by (repeat (first | exact trivial | exact rfl | exact ⟨_, rfl⟩ | refine And.intro ?_ ?_)); first | done | fail)) rfl ?_ | refine VQ_q (Q_call rfl ht2 (by (repeat (first | exact trivial | exact rfl | exact ⟨_, rfl⟩ | refine And.intro ?_ ?_)); first | done | fail)) rfl ?_ | (refine VO_bare rfl rfl rfl rfl ?_; refine VO_q (Q_call rfl ht2 (by (repeat (first | exact trivial | exact rfl | exact ⟨_, rfl⟩ | refine And.intro ?_ ?_)); first | done | fail)) rfl ?_) | refine VQ_run rfl rfl rfl rfl (Q_call rfl ht2 (by (repeat (first | exact trivial | exact rfl | exact ⟨_, rfl⟩ | refine And.intro ?_ ?_)); first | done | fail)) rfl ?_) | (first | refine VO_nil ?_ | refine VQ_nil ?_) | (first | refine V_seq_region ?_ | refine V_seq (V_seq_region ?_) | refine V_seq_draw tmix (by kernel_rfl) ?_ | refine V_seq (V_seq_draw tmix (by kernel_rfl) ?_) | refine V_region ?_ | refine V_draw tmix (by kernel_rfl) ?_))
    (first | refine V_cond rfl (fun hc3 => ?_) (fun hc3 => ?_) | refine V_seq (V_cond rfl (fun hc3 => ?_) (fun hc3 => ?_)))
    · simp at hc3
    refine V_skip ?_
    clear hc3
    repeat (first | refine VO_d ?_ | refine VQ_d ?_ | (first | refine VO_q (Q_index rfl rfl TE.h TI.h (by omega) hge) rfl ?_ | refine VQ_q (Q_index rfl rfl TE.h TI.h (by omega) hge) rfl ?_ | (refine VO_bare rfl rfl rfl rfl ?_; refine VO_q (Q_index rfl rfl TE.h TI.h (by omega) hge) rfl ?_) | refine VQ_run rfl rfl rfl rfl (Q_index rfl rfl TE.h TI.h (by omega) hge) rfl ?_) | (first | refine VO_nil ?_ | refine VQ_nil ?_) | (first | refine V_seq_region ?_ | refine V_seq (V_seq_region ?_) | refine V_seq_draw tmix (by kernel_rfl) ?_ | refine V_seq (V_seq_draw tmix (by kernel_rfl) ?_) | refine V_region ?_ | refine V_draw tmix (by kernel_rfl) ?_))
    (first | refine V_cond rfl (fun hc3 => ?_) (fun hc3 => ?_) | refine V_seq (V_cond rfl (fun hc3 => ?_) (fun hc3 => ?_)))
    · simp at hc3
    refine V_skip ?_
    clear hc3
    repeat (first | refine VO_d ?_ | refine VQ_d ?_ | (first | refine VO_q (Q_index rfl rfl TE.h TI.h (by omega) hge) rfl ?_ | refine VQ_q (Q_index rfl rfl TE.h TI.h (by omega) hge) rfl ?_ | (refine VO_bare rfl rfl rfl rfl ?_; refine VO_q (Q_index rfl rfl TE.h TI.h (by omega) hge) rfl ?_) | refine VQ_run rfl rfl rfl rfl (Q_index rfl rfl TE.h TI.h (by omega) hge) rfl ?_) | (first | refine VO_nil ?_ | refine VQ_nil ?_) | (first | refine V_seq_region ?_ | refine V_seq (V_seq_region ?_) | refine V_seq_draw tmix (by kernel_rfl) ?_ | refine V_seq (V_seq_draw tmix (by kernel_rfl) ?_) | refine V_region ?_ | refine V_draw tmix (by kernel_rfl) ?_))
    (first | refine V_cond rfl (fun hc3 => ?_) (fun hc3 => ?_) | refine V_seq (V_cond rfl (fun hc3 => ?_) (fun hc3 => ?_)))
    · simp at hc3
    refine V_skip ?_
    clear hc3
    have ht5 := markText_all (kk + 1 + 1 + 1 + 1 + 1) (by omega) (by omega)
    repeat (first | refine VO_d ?_ | refine VQ_d ?_ | (first | refine VO_q (Q_index rfl rfl TE.h TI.h (by omega) hge) rfl ?_ | refine VQ_q (Q_index rfl rfl TE.h TI.h (by omega) hge) rfl ?_ | (refine VO_bare rfl rfl rfl rfl ?_; refine VO_q (Q_index rfl rfl TE.h TI.h (by omega) hge) rfl ?_) | refine VQ_run rfl rfl rfl rfl (Q_index rfl rfl TE.h TI.h (by omega) hge) rfl ?_) | (first | refine VO_q (Q_call rfl ht5 (by (repeat (first | exact trivial | exact rfl | exact ⟨_, rfl⟩ | refine And.intro ?_ ?_)); first | done | fail)) rfl ?_ | refine VQ_q (Q_call rfl ht5 (by (repeat (first | exact trivial | exact rfl | exact ⟨_, rfl⟩ | refine And.intro ?_ ?_)); first | done | fail)) rfl ?_ | (refine VO_bare rfl rfl rfl rfl ?_; refine VO_q (Q_call rfl ht5 (by (repeat (first | exact trivial | exact rfl | exact ⟨_, rfl⟩ | refine And.intro ?_ ?_)); first | done | fail)) rfl ?_) | refine VQ_run rfl rfl rfl rfl (Q_call rfl ht5 (by (repeat (first | exact trivial | exact rfl | exact ⟨_, rfl⟩ | refine And.intro ?_ ?_)); first | done | fail)) rfl ?_) | (first | refine VO_nil ?_ | refine VQ_nil ?_) | (first | refine V_seq_region ?_ | refine V_seq (V_seq_region ?_) | refine V_seq_draw tmix (by kernel_rfl) ?_ | refine V_seq (V_seq_draw tmix (by kernel_rfl) ?_) | refine V_region ?_ | refine V_draw tmix (by kernel_rfl) ?_))
    (first | refine V_cond rfl (fun hc3 => ?_) (fun hc3 => ?_) | refine V_seq (V_cond rfl (fun hc3 => ?_) (fun hc3 => ?_)))
    · simp at hc3
    refine V_skip ?_
    clear hc3
    have hm6 := ih0 a_0 a_1 a_2 a_3 a_4_0 a_4_1 a_4_2 a_5 a_6 a_7 a_8 hmem (kk + 1 + 1 + 1 + 1 + 1 + 1) (by omega) (by simp only [U.lf]; omega)
    change SpecP _ _ [.d (.sl 3 (U.mks a_4_2 (kk + 1 + 1 + 1 + 1 + 1 + 1)).1), _] [.i .i64 (U.mks a_4_2 (kk + 1 + 1 + 1 + 1 + 1 + 1)).2] at hm6
    have hs6 := mks_snd a_4_2 (kk + 1 + 1 + 1 + 1 + 1 + 1)
    repeat (first | refine VO_d ?_ | refine VQ_d ?_ | (first | refine VO_q (Q_index rfl rfl TE.h TI.h (by omega) hge) rfl ?_ | refine VQ_q (Q_index rfl rfl TE.h TI.h (by omega) hge) rfl ?_ | (refine VO_bare rfl rfl rfl rfl ?_; refine VO_q (Q_index rfl rfl TE.h TI.h (by omega) hge) rfl ?_) | refine VQ_run rfl rfl rfl rfl (Q_index rfl rfl TE.h TI.h (by omega) hge) rfl ?_) | (first | refine VO_q (Q_call rfl hm6 (by (repeat (first | exact trivial | exact rfl | exact ⟨_, rfl⟩ | refine And.intro ?_ ?_)); first | done | fail)) rfl ?_ | refine VQ_q (Q_call rfl hm6 (by (repeat (first | exact trivial | exact rfl | exact ⟨_, rfl⟩ | refine And.intro ?_ ?_)); first | done | fail)) rfl ?_ | (refine VO_bare rfl rfl rfl rfl ?_; refine VO_q (Q_call rfl hm6 (by (repeat (first | exact trivial | exact rfl | exact ⟨_, rfl⟩ | refine And.intro ?_ ?_)); first | done | fail)) rfl ?_) | refine VQ_run rfl rfl rfl rfl (Q_call rfl hm6 (by (repeat (first | exact trivial | exact rfl | exact ⟨_, rfl⟩ | refine And.intro ?_ ?_)); first | done | fail)) rfl ?_) | (first | refine VO_nil ?_ | refine VQ_nil ?_) | (first | refine V_seq_region ?_ | refine V_seq (V_seq_region ?_) | refine V_seq_draw tmix (by kernel_rfl) ?_ | refine V_seq (V_seq_draw tmix (by kernel_rfl) ?_) | refine V_region ?_ | refine V_draw tmix (by kernel_rfl) ?_))
    (first | refine V_cond rfl (fun hc3 => ?_) (fun hc3 => ?_) | refine V_seq (V_cond rfl (fun hc3 => ?_) (fun hc3 => ?_)))
    · exfalso; simp only [decide_eq_true_eq] at hc3; change (U.mks a_4_2 (kk + 1 + 1 + 1 + 1 + 1 + 1)).2 < 0 at hc3; omega
    refine V_skip ?_
    clear hc3
    have hm7 := ih1 a_0 a_1 a_2 a_3 a_4_0 a_4_1 a_4_2 a_5 a_6 a_7 a_8 hmem ((U.mks a_4_2 (kk + 1 + 1 + 1 + 1 + 1 + 1)).2) (by omega) (by simp only [U.lf]; omega)
    change SpecP _ _ [.d (.sl 3 (U.mks a_5 ((U.mks a_4_2 (kk + 1 + 1 + 1 + 1 + 1 + 1)).2)).1), _] [.i .i64 (U.mks a_5 ((U.mks a_4_2 (kk + 1 + 1 + 1 + 1 + 1 + 1)).2)).2] at hm7
    have hs7 := mks_snd a_5 ((U.mks a_4_2 (kk + 1 + 1 + 1 + 1 + 1 + 1)).2)
    repeat (first | refine VO_d ?_ | refine VQ_d ?_ | (first | refine VO_q (Q_index rfl rfl TE.h TI.h (by omega) hge) rfl ?_ | refine VQ_q (Q_index rfl rfl TE.h TI.h (by omega) hge) rfl ?_ | (refine VO_bare rfl rfl rfl rfl ?_; refine VO_q (Q_index rfl rfl TE.h TI.h (by omega) hge) rfl ?_) | refine VQ_run rfl rfl rfl rfl (Q_index rfl rfl TE.h TI.h (by omega) hge) rfl ?_) | (first | refine VO_q (Q_call rfl hm7 (by (repeat (first | exact trivial | exact rfl | exact ⟨_, rfl⟩ | refine And.intro ?_ ?_)); first | done | fail)) rfl ?_ | refine VQ_q (Q_call rfl hm7 (by (repeat (first | exact trivial | exact rfl | exact ⟨_, rfl⟩ | refine And.intro ?_ ?_)); first | done | fail)) rfl ?_ | (refine VO_bare rfl rfl rfl rfl ?_; refine VO_q (Q_call rfl hm7 (by (repeat (first | exact trivial | exact rfl | exact ⟨_, rfl⟩ | refine And.intro ?_ ?_)); first | done | fail)) rfl ?_) | refine VQ_run rfl rfl rfl rfl (Q_call rfl hm7 (by (repeat (first | exact trivial | exact rfl | exact ⟨_, rfl⟩ | refine And.intro ?_ ?_)); first | done | fail)) rfl ?_) | (first | refine VO_nil ?_ | refine VQ_nil ?_) | (first | refine V_seq_region ?_ | refine V_seq (V_seq_region ?_) | refine V_seq_draw tmix (by kernel_rfl) ?_ | refine V_seq (V_seq_draw tmix (by kernel_rfl) ?_) | refine V_region ?_ | refine V_draw tmix (by kernel_rfl) ?_))
    (first | refine V_cond rfl (fun hc3 => ?_) (fun hc3 => ?_) | refine V_seq (V_cond rfl (fun hc3 => ?_) (fun hc3 => ?_)))
    · exfalso; simp only [decide_eq_true_eq] at hc3; change (U.mks a_5 ((U.mks a_4_2 (kk + 1 + 1 + 1 + 1 + 1 + 1)).2)).2 < 0 at hc3; omega
    refine V_skip ?_
    clear hc3
    have hm8 := ih2 a_0 a_1 a_2 a_3 a_4_0 a_4_1 a_4_2 a_5 a_6 a_7 a_8 hmem ((U.mks a_5 ((U.mks a_4_2 (kk + 1 + 1 + 1 + 1 + 1 + 1)).2)).2) (by omega) (by simp only [U.lf]; omega)
    change SpecP _ _ [.d (.sl 5 (U.mks a_6 ((U.mks a_5 ((U.mks a_4_2 (kk + 1 + 1 + 1 + 1 + 1 + 1)).2)).2)).1), _] [.i .i64 (U.mks a_6 ((U.mks a_5 ((U.mks a_4_2 (kk + 1 + 1 + 1 + 1 + 1 + 1)).2)).2)).2] at hm8
    have hs8 := mks_snd a_6 ((U.mks a_5 ((U.mks a_4_2 (kk + 1 + 1 + 1 + 1 + 1 + 1)).2)).2)
    repeat (first | refine VO_d ?_ | refine VQ_d ?_ | (first | refine VO_q (Q_index rfl rfl TE.h TI.h (by omega) hge) rfl ?_ | refine VQ_q (Q_index rfl rfl TE.h TI.h (by omega) hge) rfl ?_ | (refine VO_bare rfl rfl rfl rfl ?_; refine VO_q (Q_index rfl rfl TE.h TI.h (by omega) hge) rfl ?_) | refine VQ_run rfl rfl rfl rfl (Q_index rfl rfl TE.h TI.h (by omega) hge) rfl ?_) | (first | refine VO_q (Q_call rfl hm8 (by (repeat (first | exact trivial | exact rfl | exact ⟨_, rfl⟩ | refine And.intro ?_ ?_)); first | done | fail)) rfl ?_ | refine VQ_q (Q_call rfl hm8 (by (repeat (first | exact trivial | exact rfl | exact ⟨_, rfl⟩ | refine And.intro ?_ ?_)); first | done | fail)) rfl ?_ | (refine VO_bare rfl rfl rfl rfl ?_; refine VO_q (Q_call rfl hm8 (by (repeat (first | exact trivial | exact rfl | exact ⟨_, rfl⟩ | refine And.intro ?_ ?_)); first | done | fail)) rfl ?_) | refine VQ_run rfl rfl rfl rfl (Q_call rfl hm8 (by (repeat (first | exact trivial | exact rfl | exact ⟨_, rfl⟩ | refine And.intro ?_ ?_)); first | done | fail)) rfl ?_) | (first | refine VO_nil ?_ | refine VQ_nil ?_) | (first | refine V_seq_region ?_ | refine V_seq (V_seq_region ?_) | refine V_seq_draw tmix (by kernel_rfl) ?_ | refine V_seq (V_seq_draw tmix (by kernel_rfl) ?_) | refine V_region ?_ | refine V_draw tmix (by kernel_rfl) ?_))
    (first | refine V_cond rfl (fun hc3 => ?_) (fun hc3 => ?_) | refine V_seq (V_cond rfl (fun hc3 => ?_) (fun hc3 => ?_)))
    · exfalso; simp only [decide_eq_true_eq] at hc3; change (U.mks a_6 ((U.mks a_5 ((U.mks a_4_2 (kk + 1 + 1 + 1 + 1 + 1 + 1)).2)).2)).2 < 0 at hc3; omega
    refine V_skip ?_
    clear hc3
    have hm9 := ih3 a_0 a_1 a_2 a_3 a_4_0 a_4_1 a_4_2 a_5 a_6 a_7 a_8 hmem ((U.mks a_6 ((U.mks a_5 ((U.mks a_4_2 (kk + 1 + 1 + 1 + 1 + 1 + 1)).2)).2)).2) (by omega) (by simp only [U.lf]; omega)
    change SpecP _ _ [.d (.sl 11 (U.mks a_7 ((U.mks a_6 ((U.mks a_5 ((U.mks a_4_2 (kk + 1 + 1 + 1 + 1 + 1 + 1)).2)).2)).2)).1), _] [.i .i64 (U.mks a_7 ((U.mks a_6 ((U.mks a_5 ((U.mks a_4_2 (kk + 1 + 1 + 1 + 1 + 1 + 1)).2)).2)).2)).2] at hm9
    have hs9 := mks_snd a_7 ((U.mks a_6 ((U.mks a_5 ((U.mks a_4_2 (kk + 1 + 1 + 1 + 1 + 1 + 1)).2)).2)).2)
    repeat (first | refine VO_d ?_ | refine VQ_d ?_ | (first | refine VO_q (Q_index rfl rfl TE.h TI.h (by omega) hge) rfl ?_ | refine VQ_q (Q_index rfl rfl TE.h TI.h (by omega) hge) rfl ?_ | (refine VO_bare rfl rfl rfl rfl ?_; refine VO_q (Q_index rfl rfl TE.h TI.h (by omega) hge) rfl ?_) | refine VQ_run rfl rfl rfl rfl (Q_index rfl rfl TE.h TI.h (by omega) hge) rfl ?_) | (first | refine VO_q (Q_call rfl hm9 (by (repeat (first | exact trivial | exact rfl | exact ⟨_, rfl⟩ | refine And.intro ?_ ?_)); first | done | fail)) rfl ?_ | refine VQ_q (Q_call rfl hm9 (by (repeat (first | exact trivial | exact rfl | exact ⟨_, rfl⟩ | refine And.intro ?_ ?_)); first | done | fail)) rfl ?_ | (refine VO_bare rfl rfl rfl rfl ?_; refine VO_q (Q_call rfl hm9 (by (repeat (first | exact trivial | exact rfl | exact ⟨_, rfl⟩ | refine And.intro ?_ ?_)); first | done | fail)) rfl ?_) | refine VQ_run rfl rfl rfl rfl (Q_call rfl hm9 (by (repeat (first | exact trivial | exact rfl | exact ⟨_, rfl⟩ | refine And.intro ?_ ?_)); first | done | fail)) rfl ?_) | (first | refine VO_nil ?_ | refine VQ_nil ?_) | (first | refine V_seq_region ?_ | refine V_seq (V_seq_region ?_) | refine V_seq_draw tmix (by kernel_rfl) ?_ | refine V_seq (V_seq_draw tmix (by kernel_rfl) ?_) | refine V_region ?_ | refine V_draw tmix (by kernel_rfl) ?_))
    (first | refine V_cond rfl (fun hc3 => ?_) (fun hc3 => ?_) | refine V_seq (V_cond rfl (fun hc3 => ?_) (fun hc3 => ?_)))
    · exfalso; simp only [decide_eq_true_eq] at hc3; change (U.mks a_7 ((U.mks a_6 ((U.mks a_5 ((U.mks a_4_2 (kk + 1 + 1 + 1 + 1 + 1 + 1)).2)).2)).2)).2 < 0 at hc3; omega
    refine V_skip ?_
    clear hc3
    have hm10 := ih4 a_0 a_1 a_2 a_3 a_4_0 a_4_1 a_4_2 a_5 a_6 a_7 a_8 hmem ((U.mks a_7 ((U.mks a_6 ((U.mks a_5 ((U.mks a_4_2 (kk + 1 + 1 + 1 + 1 + 1 + 1)).2)).2)).2)).2) (by omega) (by simp only [U.lf]; omega)
    change SpecP _ _ [.d (.sl 13 (U.mks a_8 ((U.mks a_7 ((U.mks a_6 ((U.mks a_5 ((U.mks a_4_2 (kk + 1 + 1 + 1 + 1 + 1 + 1)).2)).2)).2)).2)).1), _] [.i .i64 (U.mks a_8 ((U.mks a_7 ((U.mks a_6 ((U.mks a_5 ((U.mks a_4_2 (kk + 1 + 1 + 1 + 1 + 1 + 1)).2)).2)).2)).2)).2] at hm10
    have hs10 := mks_snd a_8 ((U.mks a_7 ((U.mks a_6 ((U.mks a_5 ((U.mks a_4_2 (kk + 1 + 1 + 1 + 1 + 1 + 1)).2)).2)).2)).2)
    repeat (first | refine VO_d ?_ | refine VQ_d ?_ | (first | refine VO_q (Q_index rfl rfl TE.h TI.h (by omega) hge) rfl ?_ | refine VQ_q (Q_index rfl rfl TE.h TI.h (by omega) hge) rfl ?_ | (refine VO_bare rfl rfl rfl rfl ?_; refine VO_q (Q_index rfl rfl TE.h TI.h (by omega) hge) rfl ?_) | refine VQ_run rfl rfl rfl rfl (Q_index rfl rfl TE.h TI.h (by omega) hge) rfl ?_) | (first | refine VO_q (Q_call rfl hm10 (by (repeat (first | exact trivial | exact rfl | exact ⟨_, rfl⟩ | refine And.intro ?_ ?_)); first | done | fail)) rfl ?_ | refine VQ_q (Q_call rfl hm10 (by (repeat (first | exact trivial | exact rfl | exact ⟨_, rfl⟩ | refine And.intro ?_ ?_)); first | done | fail)) rfl ?_ | (refine VO_bare rfl rfl rfl rfl ?_; refine VO_q (Q_call rfl hm10 (by (repeat (first | exact trivial | exact rfl | exact ⟨_, rfl⟩ | refine And.intro ?_ ?_)); first | done | fail)) rfl ?_) | refine VQ_run rfl rfl rfl rfl (Q_call rfl hm10 (by (repeat (first | exact trivial | exact rfl | exact ⟨_, rfl⟩ | refine And.intro ?_ ?_)); first | done | fail)) rfl ?_) | (first | refine VO_nil ?_ | refine VQ_nil ?_) | (first | refine V_seq_region ?_ | refine V_seq (V_seq_region ?_) | refine V_seq_draw tmix (by kernel_rfl) ?_ | refine V_seq (V_seq_draw tmix (by kernel_rfl) ?_) | refine V_region ?_ | refine V_draw tmix (by kernel_rfl) ?_))
    (first | refine V_cond rfl (fun hc3 => ?_) (fun hc3 => ?_) | refine V_seq (V_cond rfl (fun hc3 => ?_) (fun hc3 => ?_)))
    · exfalso; simp only [decide_eq_true_eq] at hc3; change (U.mks a_8 ((U.mks a_7 ((U.mks a_6 ((U.mks a_5 ((U.mks a_4_2 (kk + 1 + 1 + 1 + 1 + 1 + 1)).2)).2)).2)).2)).2 < 0 at hc3; omega
    refine V_skip ?_
    clear hc3
    repeat (first | refine VO_d ?_ | refine VQ_d ?_  | (first | refine VO_nil ?_ | refine VQ_nil ?_) | (first | refine V_seq_region ?_ | refine V_seq (V_seq_region ?_) | refine V_seq_draw tmix (by kernel_rfl) ?_ | refine V_seq (V_seq_draw tmix (by kernel_rfl) ?_) | refine V_region ?_ | refine V_draw tmix (by kernel_rfl) ?_))
    refine ⟨i + 1, by omega, by omega, ⟨rfl, ⟨⟨rfl, rfl⟩, ⟨?_, rfl⟩, ⟨rfl, rfl⟩, trivial⟩, ⟨[], rfl⟩, rfl⟩⟩
    rw [hnext]
    rfl
  · refine V_exit ?_
    simp only [decide_eq_false_iff_not] at hc2
    have hkl : i = us.length := by omega
    subst hkl
    show V _ _ _ _ _
    repeat (first | refine VO_d ?_ | refine VQ_d ?_  | (first | refine VO_nil ?_ | refine VQ_nil ?_) | (first | refine V_seq_region ?_ | refine V_seq (V_seq_region ?_) | refine V_seq_draw tmix (by kernel_rfl) ?_ | refine V_seq (V_seq_draw tmix (by kernel_rfl) ?_) | refine V_region ?_ | refine V_draw tmix (by kernel_rfl) ?_))
    refine V_ret ?_
    refine ⟨trivial, ⟨_, rfl, ?_⟩, trivial⟩
    rw [List.take_length]
    exact rfl

set_option maxHeartbeats 8000000 in
theorem heldCore_step {f0 : Int} {f1 : List UInt8} {f2 : List UInt8} {f3 : Int} {f4 : U} {f5 : List U} {f6 : List U} {f7 : List U} {f8 : List U} (g4 : wt (.st 1) f4) (h4 : PHe 15 f4) (h5 : PHe 44 (.sl 3 f5)) (h6 : PHe 67 (.sl 5 f6)) (h7 : PHe 68 (.sl 11 f7)) (h8 : PHe 69 (.sl 13 f8)) : PHe 26 (.st [.i .i64 f0, .s f1, .s f2, .i .i64 f3, f4, .sl 3 f5, .sl 5 f6, .sl 11 f7, .sl 13 f8]) := by
  intro k0 hk0 hk1
  obtain ⟨f4_0, f4_1, f4_2, rfl, g4_0, g4_1, g4_2⟩ := inv_Type g4
  have hlf : ((.st [.i .i64 f0, .s f1, .s f2, .i .i64 f3, .st [.i .i64 f4_0, .s f4_1, .sl 3 f4_2], .sl 3 f5, .sl 5 f6, .sl 11 f7, .sl 13 f8]) : U).lf = 0 + 1 + 1 + 1 + 1 + 1 + 1 + U.lfs f4_2 + U.lfs f5 + U.lfs f6 + U.lfs f7 + U.lfs f8 := by simp [U.lf, U.lfs]; omega
  rw [hlf] at hk1
  show SpecP _ _ [.d (.st [.i .i64 f0, .s f1, .s f2, .i .i64 f3, .st [.i .i64 f4_0, .s f4_1, .sl 3 (U.mks f4_2 (k0)).1], .sl 3 (U.mks f5 ((U.mks f4_2 (k0)).2)).1, .sl 5 (U.mks f6 ((U.mks f5 ((U.mks f4_2 (k0)).2)).2)).1, .sl 11 (U.mks f7 ((U.mks f6 ((U.mks f5 ((U.mks f4_2 (k0)).2)).2)).2)).1, .sl 13 (U.mks f8 ((U.mks f7 ((U.mks f6 ((U.mks f5 ((U.mks f4_2 (k0)).2)).2)).2)).2)).1]), .d (.i .i64 k0)] [.i .i64 ((U.mks f8 ((U.mks f7 ((U.mks f6 ((U.mks f5 ((U.mks f4_2 (k0)).2)).2)).2)).2)).2)]
  refine SpecP_intro Try.func26 rfl (by kernel_rfl) rfl fun A _ => ?_
  have hm4 := h4 (k0) (by omega) (by simp only [U.lf, U.lfs]; omega)
  have hs_f4_2 := mks_snd f4_2 (k0)
  repeat (first | refine VO_d ?_ | refine VQ_d ?_ | (first | refine VO_q (Q_call rfl hm4 (by (repeat (first | exact trivial | exact rfl | exact ⟨_, rfl⟩ | refine And.intro ?_ ?_)); first | done | fail)) rfl ?_ | refine VQ_q (Q_call rfl hm4 (by (repeat (first | exact trivial | exact rfl | exact ⟨_, rfl⟩ | refine And.intro ?_ ?_)); first | done | fail)) rfl ?_ | (refine VO_bare rfl rfl rfl rfl ?_; refine VO_q (Q_call rfl hm4 (by (repeat (first | exact trivial | exact rfl | exact ⟨_, rfl⟩ | refine And.intro ?_ ?_)); first | done | fail)) rfl ?_) | refine VQ_run rfl rfl rfl rfl (Q_call rfl hm4 (by (repeat (first | exact trivial | exact rfl | exact ⟨_, rfl⟩ | refine And.intro ?_ ?_)); first | done | fail)) rfl ?_) | (first | refine VO_nil ?_ | refine VQ_nil ?_) | (first | refine V_seq_region ?_ | refine V_seq (V_seq_region ?_) | refine V_seq_draw tmix (by kernel_rfl) ?_ | refine V_seq (V_seq_draw tmix (by kernel_rfl) ?_) | refine V_region ?_ | refine V_draw tmix (by kernel_rfl) ?_))
  (first | refine V_cond rfl (fun hc3 => ?_) (fun hc3 => ?_) | refine V_seq (V_cond rfl (fun hc3 => ?_) (fun hc3 => ?_)))
  · exfalso; simp only [decide_eq_true_eq] at hc3; change (U.mks f4_2 (k0)).2 < 0 at hc3; omega
  refine V_skip ?_
  clear hc3
  have hm5 := h5 ((U.mks f4_2 (k0)).2) (by omega) (by simp only [U.lf, U.lfs]; omega)
  have hs_f5 := mks_snd f5 ((U.mks f4_2 (k0)).2)
  repeat (first | refine VO_d ?_ | refine VQ_d ?_ | (first | refine VO_q (Q_call rfl hm5 (by (repeat (first | exact trivial | exact rfl | exact ⟨_, rfl⟩ | refine And.intro ?_ ?_)); first | done | fail)) rfl ?_ | refine VQ_q (Q_call rfl hm5 (by (repeat (first | exact trivial | exact rfl | exact ⟨_, rfl⟩ | refine And.intro ?_ ?_)); first | done | fail)) rfl ?_ | (refine VO_bare rfl rfl rfl rfl ?_; refine VO_q (Q_call rfl hm5 (by (repeat (first | exact trivial | exact rfl | exact ⟨_, rfl⟩ | refine And.intro ?_ ?_)); first | done | fail)) rfl ?_) | refine VQ_run rfl rfl rfl rfl (Q_call rfl hm5 (by (repeat (first | exact trivial | exact rfl | exact ⟨_, rfl⟩ | refine And.intro ?_ ?_)); first | done | fail)) rfl ?_) | (first | refine VO_nil ?_ | refine VQ_nil ?_) | (first | refine V_seq_region ?_ | refine V_seq (V_seq_region ?_) | refine V_seq_draw tmix (by kernel_rfl) ?_ | refine V_seq (V_seq_draw tmix (by kernel_rfl) ?_) | refine V_region ?_ | refine V_draw tmix (by kernel_rfl) ?_))
  (first | refine V_cond rfl (fun hc3 => ?_) (fun hc3 => ?_) | refine V_seq (V_cond rfl (fun hc3 => ?_) (fun hc3 => ?_)))
  · exfalso; simp only [decide_eq_true_eq] at hc3; change (U.mks f5 ((U.mks f4_2 (k0)).2)).2 < 0 at hc3; omega
  refine V_skip ?_
  clear hc3
  have hm6 := h6 ((U.mks f5 ((U.mks f4_2 (k0)).2)).2) (by omega) (by simp only [U.lf, U.lfs]; omega)
  have hs_f6 := mks_snd f6 ((U.mks f5 ((U.mks f4_2 (k0)).2)).2)
  repeat (first | refine VO_d ?_ | refine VQ_d ?_ | (first | refine VO_q (Q_call rfl hm6 (by (repeat (first | exact trivial | exact rfl | exact ⟨_, rfl⟩ | refine And.intro ?_ ?_)); first | done | fail)) rfl ?_ | refine VQ_q (Q_call rfl hm6 (by (repeat (first | exact trivial | exact rfl | exact ⟨_, rfl⟩ | refine And.intro ?_ ?_)); first | done | fail)) rfl ?_ | (refine VO_bare rfl rfl rfl rfl ?_; refine VO_q (Q_call rfl hm6 (by (repeat (first | exact trivial | exact rfl | exact ⟨_, rfl⟩ | refine And.intro ?_ ?_)); first | done | fail)) rfl ?_) | refine VQ_run rfl rfl rfl rfl (Q_call rfl hm6 (by (repeat (first | exact trivial | exact rfl | exact ⟨_, rfl⟩ | refine And.intro ?_ ?_)); first | done | fail)) rfl ?_) | (first | refine VO_nil ?_ | refine VQ_nil ?_) | (first | refine V_seq_region ?_ | refine V_seq (V_seq_region ?_) | refine V_seq_draw tmix (by kernel_rfl) ?_ | refine V_seq (V_seq_draw tmix (by kernel_rfl) ?_) | refine V_region ?_ | refine V_draw tmix (by kernel_rfl) ?_))
  (first | refine V_cond rfl (fun hc3 => ?_) (fun hc3 => ?_) | refine V_seq (V_cond rfl (fun hc3 => ?_) (fun hc3 => ?_)))
  · exfalso; simp only [decide_eq_true_eq] at hc3; change (U.mks f6 ((U.mks f5 ((U.mks f4_2 (k0)).2)).2)).2 < 0 at hc3; omega
  refine V_skip ?_
  clear hc3
  have hm7 := h7 ((U.mks f6 ((U.mks f5 ((U.mks f4_2 (k0)).2)).2)).2) (by omega) (by simp only [U.lf, U.lfs]; omega)
  have hs_f7 := mks_snd f7 ((U.mks f6 ((U.mks f5 ((U.mks f4_2 (k0)).2)).2)).2)
  repeat (first | refine VO_d ?_ | refine VQ_d ?_ | (first | refine VO_q (Q_call rfl hm7 (by (repeat (first | exact trivial | exact rfl | exact ⟨_, rfl⟩ | refine And.intro ?_ ?_)); first | done | fail)) rfl ?_ | refine VQ_q (Q_call rfl hm7 (by (repeat (first | exact trivial | exact rfl | exact ⟨_, rfl⟩ | refine And.intro ?_ ?_)); first | done | fail)) rfl ?_ | (refine VO_bare rfl rfl rfl rfl ?_; refine VO_q (Q_call rfl hm7 (by (repeat (first | exact trivial | exact rfl | exact ⟨_, rfl⟩ | refine And.intro ?_ ?_)); first | done | fail)) rfl ?_) | refine VQ_run rfl rfl rfl rfl (Q_call rfl hm7 (by (repeat (first | exact trivial | exact rfl | exact ⟨_, rfl⟩ | refine And.intro ?_ ?_)); first | done | fail)) rfl ?_) | (first | refine VO_nil ?_ | refine VQ_nil ?_) | (first | refine V_seq_region ?_ | refine V_seq (V_seq_region ?_) | refine V_seq_draw tmix (by kernel_rfl) ?_ | refine V_seq (V_seq_draw tmix (by kernel_rfl) ?_) | refine V_region ?_ | refine V_draw tmix (by kernel_rfl) ?_))
  (first | refine V_cond rfl (fun hc3 => ?_) (fun hc3 => ?_) | refine V_seq (V_cond rfl (fun hc3 => ?_) (fun hc3 => ?_)))
  · exfalso; simp only [decide_eq_true_eq] at hc3; change (U.mks f7 ((U.mks f6 ((U.mks f5 ((U.mks f4_2 (k0)).2)).2)).2)).2 < 0 at hc3; omega
  refine V_skip ?_
  clear hc3
  have hm8 := h8 ((U.mks f7 ((U.mks f6 ((U.mks f5 ((U.mks f4_2 (k0)).2)).2)).2)).2) (by omega) (by simp only [U.lf, U.lfs]; omega)
  have hs_f8 := mks_snd f8 ((U.mks f7 ((U.mks f6 ((U.mks f5 ((U.mks f4_2 (k0)).2)).2)).2)).2)
  repeat (first | refine VO_d ?_ | refine VQ_d ?_ | (first | refine VO_q (Q_call rfl hm8 (by (repeat (first | exact trivial | exact rfl | exact ⟨_, rfl⟩ | refine And.intro ?_ ?_)); first | done | fail)) rfl ?_ | refine VQ_q (Q_call rfl hm8 (by (repeat (first | exact trivial | exact rfl | exact ⟨_, rfl⟩ | refine And.intro ?_ ?_)); first | done | fail)) rfl ?_ | (refine VO_bare rfl rfl rfl rfl ?_; refine VO_q (Q_call rfl hm8 (by (repeat (first | exact trivial | exact rfl | exact ⟨_, rfl⟩ | refine And.intro ?_ ?_)); first | done | fail)) rfl ?_) | refine VQ_run rfl rfl rfl rfl (Q_call rfl hm8 (by (repeat (first | exact trivial | exact rfl | exact ⟨_, rfl⟩ | refine And.intro ?_ ?_)); first | done | fail)) rfl ?_) | (first | refine VO_nil ?_ | refine VQ_nil ?_) | (first | refine V_seq_region ?_ | refine V_seq (V_seq_region ?_) | refine V_seq_draw tmix (by kernel_rfl) ?_ | refine V_seq (V_seq_draw tmix (by kernel_rfl) ?_) | refine V_region ?_ | refine V_draw tmix (by kernel_rfl) ?_))
  (first | refine V_cond rfl (fun hc3 => ?_) (fun hc3 => ?_) | refine V_seq (V_cond rfl (fun hc3 => ?_) (fun hc3 => ?_)))
  · exfalso; simp only [decide_eq_true_eq] at hc3; change (U.mks f8 ((U.mks f7 ((U.mks f6 ((U.mks f5 ((U.mks f4_2 (k0)).2)).2)).2)).2)).2 < 0 at hc3; omega
  refine V_skip ?_
  clear hc3
  repeat (first | refine VO_d ?_ | refine VQ_d ?_  | (first | refine VO_nil ?_ | refine VQ_nil ?_) | (first | refine V_seq_region ?_ | refine V_seq (V_seq_region ?_) | refine V_seq_draw tmix (by kernel_rfl) ?_ | refine V_seq (V_seq_draw tmix (by kernel_rfl) ?_) | refine V_region ?_ | refine V_draw tmix (by kernel_rfl) ?_))
  refine V_ret ?_
  exact ⟨trivial, ⟨_, rfl, rfl⟩, trivial⟩

theorem heldCoreArmCore_grp (u : U) : (∀ us, u = .sl 13 us → us.length ≤ big → (∀ x ∈ us, wt (.st 20) x) → PHe 69 u) ∧ (∀ us, u = .sl 11 us → us.length ≤ big → (∀ x ∈ us, wt (.st 21) x) → PHe 68 u) := by
  refine U.ind (M := fun u => (∀ us, u = .sl 13 us → us.length ≤ big → (∀ x ∈ us, wt (.st 20) x) → PHe 69 u) ∧ (∀ us, u = .sl 11 us → us.length ≤ big → (∀ x ∈ us, wt (.st 21) x) → PHe 68 u)) (fun u ih => ?_) u
  refine ⟨?_, ?_⟩
  · rintro us rfl hl hz
    exact heldCoreArmS_step hl hz (fun a_0 a_1 a_2_0 a_2_1 a_2_2 a_2_3 a_2_4_0 a_2_4_1 a_2_4_2 a_2_5 a_2_6 a_2_7 a_2_8 ha => by obtain ⟨_, _, _, hx_a, qa_0, qa_1, qa_2⟩ := inv_CoreArm (hz _ ha); cases hx_a; obtain ⟨_, _, _, _, _, _, _, _, _, hx_a_2, qa_2_0, qa_2_1, qa_2_2, qa_2_3, qa_2_4, qa_2_5, qa_2_6, qa_2_7, qa_2_8⟩ := inv_Core qa_2; cases hx_a_2; obtain ⟨_, _, _, hx_a_2_4, qa_2_4_0, qa_2_4_1, qa_2_4_2⟩ := inv_Type qa_2_4; cases hx_a_2_4; exact heldStringS_all qa_1) (fun a_0 a_1 a_2_0 a_2_1 a_2_2 a_2_3 a_2_4_0 a_2_4_1 a_2_4_2 a_2_5 a_2_6 a_2_7 a_2_8 ha => by obtain ⟨_, _, _, hx_a, qa_0, qa_1, qa_2⟩ := inv_CoreArm (hz _ ha); cases hx_a; obtain ⟨_, _, _, _, _, _, _, _, _, hx_a_2, qa_2_0, qa_2_1, qa_2_2, qa_2_3, qa_2_4, qa_2_5, qa_2_6, qa_2_7, qa_2_8⟩ := inv_Core qa_2; cases hx_a_2; obtain ⟨_, _, _, hx_a_2_4, qa_2_4_0, qa_2_4_1, qa_2_4_2⟩ := inv_Type qa_2_4; cases hx_a_2_4; exact heldTypeS_all qa_2_4_2) (fun a_0 a_1 a_2_0 a_2_1 a_2_2 a_2_3 a_2_4_0 a_2_4_1 a_2_4_2 a_2_5 a_2_6 a_2_7 a_2_8 ha => by obtain ⟨_, _, _, hx_a, qa_0, qa_1, qa_2⟩ := inv_CoreArm (hz _ ha); cases hx_a; obtain ⟨_, _, _, _, _, _, _, _, _, hx_a_2, qa_2_0, qa_2_1, qa_2_2, qa_2_3, qa_2_4, qa_2_5, qa_2_6, qa_2_7, qa_2_8⟩ := inv_Core qa_2; cases hx_a_2; obtain ⟨_, _, _, hx_a_2_4, qa_2_4_0, qa_2_4_1, qa_2_4_2⟩ := inv_Type qa_2_4; cases hx_a_2_4; exact heldTypeS_all qa_2_5) (fun a_0 a_1 a_2_0 a_2_1 a_2_2 a_2_3 a_2_4_0 a_2_4_1 a_2_4_2 a_2_5 a_2_6 a_2_7 a_2_8 ha => by obtain ⟨_, _, _, hx_a, qa_0, qa_1, qa_2⟩ := inv_CoreArm (hz _ ha); cases hx_a; obtain ⟨_, _, _, _, _, _, _, _, _, hx_a_2, qa_2_0, qa_2_1, qa_2_2, qa_2_3, qa_2_4, qa_2_5, qa_2_6, qa_2_7, qa_2_8⟩ := inv_Core qa_2; cases hx_a_2; obtain ⟨_, _, _, hx_a_2_4, qa_2_4_0, qa_2_4_1, qa_2_4_2⟩ := inv_Type qa_2_4; cases hx_a_2_4; exact heldEvidenceS_all qa_2_6) (fun a_0 a_1 a_2_0 a_2_1 a_2_2 a_2_3 a_2_4_0 a_2_4_1 a_2_4_2 a_2_5 a_2_6 a_2_7 a_2_8 ha => by obtain ⟨_, _, _, hx_a, qa_0, qa_1, qa_2⟩ := inv_CoreArm (hz _ ha); cases hx_a; obtain ⟨_, _, _, _, _, _, _, _, _, hx_a_2, qa_2_0, qa_2_1, qa_2_2, qa_2_3, qa_2_4, qa_2_5, qa_2_6, qa_2_7, qa_2_8⟩ := inv_Core qa_2; cases hx_a_2; obtain ⟨_, _, _, hx_a_2_4, qa_2_4_0, qa_2_4_1, qa_2_4_2⟩ := inv_Type qa_2_4; cases hx_a_2_4; exact (ih (.sl 11 a_2_7) (by have := nn_of_mem ha; simp only [U.nn, U.nns] at this ⊢; omega)).2 a_2_7 rfl qa_2_7.1 qa_2_7.2) (fun a_0 a_1 a_2_0 a_2_1 a_2_2 a_2_3 a_2_4_0 a_2_4_1 a_2_4_2 a_2_5 a_2_6 a_2_7 a_2_8 ha => by obtain ⟨_, _, _, hx_a, qa_0, qa_1, qa_2⟩ := inv_CoreArm (hz _ ha); cases hx_a; obtain ⟨_, _, _, _, _, _, _, _, _, hx_a_2, qa_2_0, qa_2_1, qa_2_2, qa_2_3, qa_2_4, qa_2_5, qa_2_6, qa_2_7, qa_2_8⟩ := inv_Core qa_2; cases hx_a_2; obtain ⟨_, _, _, hx_a_2_4, qa_2_4_0, qa_2_4_1, qa_2_4_2⟩ := inv_Type qa_2_4; cases hx_a_2_4; exact (ih (.sl 13 a_2_8) (by have := nn_of_mem ha; simp only [U.nn, U.nns] at this ⊢; omega)).1 a_2_8 rfl qa_2_8.1 qa_2_8.2)
  · rintro us rfl hl hz
    exact heldCoreS_step hl hz (fun a_0 a_1 a_2 a_3 a_4_0 a_4_1 a_4_2 a_5 a_6 a_7 a_8 ha => by obtain ⟨_, _, _, _, _, _, _, _, _, hx_a, qa_0, qa_1, qa_2, qa_3, qa_4, qa_5, qa_6, qa_7, qa_8⟩ := inv_Core (hz _ ha); cases hx_a; obtain ⟨_, _, _, hx_a_4, qa_4_0, qa_4_1, qa_4_2⟩ := inv_Type qa_4; cases hx_a_4; exact heldTypeS_all qa_4_2) (fun a_0 a_1 a_2 a_3 a_4_0 a_4_1 a_4_2 a_5 a_6 a_7 a_8 ha => by obtain ⟨_, _, _, _, _, _, _, _, _, hx_a, qa_0, qa_1, qa_2, qa_3, qa_4, qa_5, qa_6, qa_7, qa_8⟩ := inv_Core (hz _ ha); cases hx_a; obtain ⟨_, _, _, hx_a_4, qa_4_0, qa_4_1, qa_4_2⟩ := inv_Type qa_4; cases hx_a_4; exact heldTypeS_all qa_5) (fun a_0 a_1 a_2 a_3 a_4_0 a_4_1 a_4_2 a_5 a_6 a_7 a_8 ha => by obtain ⟨_, _, _, _, _, _, _, _, _, hx_a, qa_0, qa_1, qa_2, qa_3, qa_4, qa_5, qa_6, qa_7, qa_8⟩ := inv_Core (hz _ ha); cases hx_a; obtain ⟨_, _, _, hx_a_4, qa_4_0, qa_4_1, qa_4_2⟩ := inv_Type qa_4; cases hx_a_4; exact heldEvidenceS_all qa_6) (fun a_0 a_1 a_2 a_3 a_4_0 a_4_1 a_4_2 a_5 a_6 a_7 a_8 ha => by obtain ⟨_, _, _, _, _, _, _, _, _, hx_a, qa_0, qa_1, qa_2, qa_3, qa_4, qa_5, qa_6, qa_7, qa_8⟩ := inv_Core (hz _ ha); cases hx_a; obtain ⟨_, _, _, hx_a_4, qa_4_0, qa_4_1, qa_4_2⟩ := inv_Type qa_4; cases hx_a_4; exact (ih (.sl 11 a_7) (by have := nn_of_mem ha; simp only [U.nn, U.nns] at this ⊢; omega)).2 a_7 rfl qa_7.1 qa_7.2) (fun a_0 a_1 a_2 a_3 a_4_0 a_4_1 a_4_2 a_5 a_6 a_7 a_8 ha => by obtain ⟨_, _, _, _, _, _, _, _, _, hx_a, qa_0, qa_1, qa_2, qa_3, qa_4, qa_5, qa_6, qa_7, qa_8⟩ := inv_Core (hz _ ha); cases hx_a; obtain ⟨_, _, _, hx_a_4, qa_4_0, qa_4_1, qa_4_2⟩ := inv_Type qa_4; cases hx_a_4; exact (ih (.sl 13 a_8) (by have := nn_of_mem ha; simp only [U.nn, U.nns] at this ⊢; omega)).1 a_8 rfl qa_8.1 qa_8.2)
theorem heldCoreArmS_all {us : List U} (h : us.length ≤ big ∧ ∀ x ∈ us, wt (.st 20) x) : PHe 69 (.sl 13 us) := (heldCoreArmCore_grp (.sl 13 us)).1 us rfl h.1 h.2
theorem heldCoreS_all {us : List U} (h : us.length ≤ big ∧ ∀ x ∈ us, wt (.st 21) x) : PHe 68 (.sl 11 us) := (heldCoreArmCore_grp (.sl 11 us)).2 us rfl h.1 h.2
theorem heldCore_all {u : U} (h : wt (.st 21) u) : PHe 26 u := by
  obtain ⟨f0, f1, f2, f3, f4, f5, f6, f7, f8, rfl, p0, p1, p2, p3, p4, p5, p6, p7, p8⟩ := inv_Core h
  exact heldCore_step p4 (heldType_all p4) (heldTypeS_all p5) (heldEvidenceS_all p6) (heldCoreS_all p7) (heldCoreArmS_all p8)

end Go.Proofs.Ythojhakapbfbiaa
