/- The program's and the reference's EqualType, EqualEvidence, EqualCore. Written by a program of mine. -/
import Derived.Test.YtbhigchfphnkhaaFamM
set_option linter.unusedVariables false
set_option linter.unusedSimpArgs false
namespace Go.Proofs.Ytbhigchfphnkhaa
open Go Go.Eng
attribute [local irreducible] V VO VQ Quiet SpecP

theorem slicesEqual_string {us vs : List U} (h : us.length ≤ big ∧ ∀ x ∈ us, wt .str x) (h2 : vs.length ≤ big ∧ ∀ x ∈ vs, wt .str x) : PEq 55 (.sl 1 us) (.sl 1 vs) := by
  obtain ⟨hb1, hz⟩ := h
  obtain ⟨hb2, hz2⟩ := h2
  rw [big_eq] at hb1 hb2
  refine SpecP_intro Try.func55 rfl (by kernel_rfl) rfl fun A => ?_
  (first | refine V_seq_region ?_ | refine V_seq (V_seq_region ?_) | refine V_seq_draw tmix (by kernel_rfl) ?_ | refine V_seq (V_seq_draw tmix (by kernel_rfl) ?_) | refine V_region ?_ | refine V_draw tmix (by kernel_rfl) ?_)
  repeat refine VO_d ?_
  (first | refine VO_nil ?_ | refine VQ_nil ?_)
  (first | refine V_seq_region ?_ | refine V_seq (V_seq_region ?_) | refine V_seq_draw tmix (by kernel_rfl) ?_ | refine V_seq (V_seq_draw tmix (by kernel_rfl) ?_) | refine V_region ?_ | refine V_draw tmix (by kernel_rfl) ?_)
  repeat refine VO_d ?_
  (first | refine VO_nil ?_ | refine VQ_nil ?_)
  (first | refine V_cond rfl (fun hc => ?_) (fun hc => ?_) | refine V_seq (V_cond rfl (fun hc => ?_) (fun hc => ?_)))
  · (first | refine V_seq_region ?_ | refine V_seq (V_seq_region ?_) | refine V_seq_draw tmix (by kernel_rfl) ?_ | refine V_seq (V_seq_draw tmix (by kernel_rfl) ?_) | refine V_region ?_ | refine V_draw tmix (by kernel_rfl) ?_)
    repeat refine VO_d ?_
    (first | refine VO_nil ?_ | refine VQ_nil ?_)
    refine V_ret ?_
    exact ⟨trivial, ⟨_, rfl, congrArg U.b (deq_false.2 (by intro h; injection h with _ h; subst h; simp at hc)).symm⟩, trivial⟩
  refine V_skip ?_
  have hll : us.length = vs.length := by simp at hc; omega
  (first | refine V_seq_region ?_ | refine V_seq (V_seq_region ?_) | refine V_seq_draw tmix (by kernel_rfl) ?_ | refine V_seq (V_seq_draw tmix (by kernel_rfl) ?_) | refine V_region ?_ | refine V_draw tmix (by kernel_rfl) ?_)
  repeat refine VO_d ?_
  (first | refine VO_nil ?_ | refine VQ_nil ?_)
  refine V_block ?_
  refine V_loop (α := Nat)
    (fun k => ⟨[(0, .d (.sl 1 us)), (1, .d (.sl 1 vs)), (12, .d (.i .i64 us.length)), (13, .d (.i .i64 k))], [], Try.f55.ntmps⟩)
    (fun k => k ≤ us.length ∧ ∀ j, j < k → us[j]? = vs[j]?)
    (fun k => us.length - k) 0 ⟨rfl, ⟨⟨rfl, rfl⟩, ⟨rfl, rfl⟩, ⟨rfl, rfl⟩, ⟨rfl, rfl⟩, trivial⟩, ⟨[], rfl⟩, rfl⟩ ⟨by simp, by simp⟩ ?_
  rintro k ⟨hk, hsame⟩
  (first | refine V_seq_region ?_ | refine V_seq (V_seq_region ?_) | refine V_seq_draw tmix (by kernel_rfl) ?_ | refine V_seq (V_seq_draw tmix (by kernel_rfl) ?_) | refine V_region ?_ | refine V_draw tmix (by kernel_rfl) ?_)
  repeat refine VO_d ?_
  (first | refine VO_nil ?_ | refine VQ_nil ?_)
  (first | refine V_cond rfl (fun hc2 => ?_) (fun hc2 => ?_) | refine V_seq (V_cond rfl (fun hc2 => ?_) (fun hc2 => ?_)))
  · refine V_skip ?_
    simp only [decide_eq_true_eq] at hc2
    have hkl : k < us.length := by omega
    have hkv : k < vs.length := by omega
    have hget : us[k]? = some us[k] := List.getElem?_eq_getElem hkl
    have hgev : vs[k]? = some vs[k] := List.getElem?_eq_getElem hkv
    obtain ⟨l1, h1, _⟩ := inv_str (hz _ (List.getElem_mem hkl))
    obtain ⟨l2, h2, _⟩ := inv_str (hz2 _ (List.getElem_mem hkv))
    have hg1 : us[k]? = some (.s l1) := by rw [hget, h1]
    have hg2 : vs[k]? = some (.s l2) := by rw [hgev, h2]
    refine V_seq (V_block ?_)
    (first | refine V_seq_region ?_ | refine V_seq (V_seq_region ?_) | refine V_seq_draw tmix (by kernel_rfl) ?_ | refine V_seq (V_seq_draw tmix (by kernel_rfl) ?_) | refine V_region ?_ | refine V_draw tmix (by kernel_rfl) ?_)
    repeat refine VO_d ?_
    (first | refine VO_nil ?_ | refine VQ_nil ?_)
    (first | refine V_seq_region ?_ | refine V_seq (V_seq_region ?_) | refine V_seq_draw tmix (by kernel_rfl) ?_ | refine V_seq (V_seq_draw tmix (by kernel_rfl) ?_) | refine V_region ?_ | refine V_draw tmix (by kernel_rfl) ?_)
    repeat (first | refine VO_d ?_ | refine VQ_d ?_)
    (first | refine VO_q (Q_index rfl rfl TE.h TI.h (by omega) hg1) rfl ?_ | refine VQ_q (Q_index rfl rfl TE.h TI.h (by omega) hg1) rfl ?_ | (refine VO_bare rfl rfl rfl rfl ?_; refine VO_q (Q_index rfl rfl TE.h TI.h (by omega) hg1) rfl ?_) | refine VQ_run rfl rfl rfl rfl (Q_index rfl rfl TE.h TI.h (by omega) hg1) rfl ?_)
    repeat (first | refine VO_d ?_ | refine VQ_d ?_)
    (first | refine VO_q (Q_index rfl rfl TE.h TI.h (by omega) hg2) rfl ?_ | refine VQ_q (Q_index rfl rfl TE.h TI.h (by omega) hg2) rfl ?_ | (refine VO_bare rfl rfl rfl rfl ?_; refine VO_q (Q_index rfl rfl TE.h TI.h (by omega) hg2) rfl ?_) | refine VQ_run rfl rfl rfl rfl (Q_index rfl rfl TE.h TI.h (by omega) hg2) rfl ?_)
    repeat (first | refine VO_d ?_ | refine VQ_d ?_)
    (first | refine VO_nil ?_ | refine VQ_nil ?_)
    (first | refine V_cond rfl (fun hc3 => ?_) (fun hc3 => ?_) | refine V_seq (V_cond rfl (fun hc3 => ?_) (fun hc3 => ?_)))
    · (first | refine V_seq_region ?_ | refine V_seq (V_seq_region ?_) | refine V_seq_draw tmix (by kernel_rfl) ?_ | refine V_seq (V_seq_draw tmix (by kernel_rfl) ?_) | refine V_region ?_ | refine V_draw tmix (by kernel_rfl) ?_)
      repeat refine VO_d ?_
      (first | refine VO_nil ?_ | refine VQ_nil ?_)
      refine V_ret ?_
      exact ⟨trivial, ⟨_, rfl, congrArg U.b (deq_false.2 (by intro h; injection h with _ h; subst h; rw [hg1] at hg2; injection hg2 with hg2; injection hg2; simp_all)).symm⟩, trivial⟩
    refine V_skip ?_
    have heq : us[k] = vs[k] := by rw [h1, h2]; simp at hc3; rw [hc3]
    (first | refine V_seq_region ?_ | refine V_seq (V_seq_region ?_) | refine V_seq_draw tmix (by kernel_rfl) ?_ | refine V_seq (V_seq_draw tmix (by kernel_rfl) ?_) | refine V_region ?_ | refine V_draw tmix (by kernel_rfl) ?_)
    repeat refine VO_d ?_
    (first | refine VO_nil ?_ | refine VQ_nil ?_)
    refine ⟨k + 1, ⟨by omega, fun j hj => ?_⟩, by omega, ⟨rfl, ⟨⟨rfl, rfl⟩, ⟨rfl, rfl⟩, ⟨rfl, rfl⟩, ⟨rfl, rfl⟩, trivial⟩, ⟨[], rfl⟩, rfl⟩⟩
    by_cases hjk : j = k
    · subst hjk; rw [hget, hgev, heq]
    · exact hsame j (by omega)
  · refine V_exit ?_
    simp only [decide_eq_false_iff_not] at hc2
    have hkl : k = us.length := by omega
    subst hkl
    have hall : us = vs := by
      apply List.ext_getElem?
      intro j
      by_cases hj : j < us.length
      · exact hsame j hj
      · rw [List.getElem?_eq_none (by omega), List.getElem?_eq_none (by omega)]
    show V _ _ _ _ _
    (first | refine V_seq_region ?_ | refine V_seq (V_seq_region ?_) | refine V_seq_draw tmix (by kernel_rfl) ?_ | refine V_seq (V_seq_draw tmix (by kernel_rfl) ?_) | refine V_region ?_ | refine V_draw tmix (by kernel_rfl) ?_)
    repeat refine VO_d ?_
    (first | refine VO_nil ?_ | refine VQ_nil ?_)
    refine V_ret ?_
    exact ⟨trivial, ⟨_, rfl, congrArg U.b (deq_true.2 (by rw [hall])).symm⟩, trivial⟩

set_option maxHeartbeats 4000000 in
theorem equalFunc_Type {fi : Nat} {us vs : List U} (hb1 : us.length ≤ big) (hb2 : vs.length ≤ big) (hw : ∀ a ∈ us, wt (.st 1) a) (hw2 : ∀ a ∈ vs, wt (.st 1) a) (ih : ∀ a ∈ us, ∀ b ∈ vs, PEq fi a b) :
    SpecP Try.prog 61 [.d (.sl 3 us), .d (.sl 3 vs), .fn fi []] [.b (deq (.sl 3 us) (.sl 3 vs))] := by
  rw [big_eq] at hb1 hb2
  refine SpecP_intro Try.func61 rfl (by kernel_rfl) rfl fun A => ?_
  (first | refine V_seq_region ?_ | refine V_seq (V_seq_region ?_) | refine V_seq_draw tmix (by kernel_rfl) ?_ | refine V_seq (V_seq_draw tmix (by kernel_rfl) ?_) | refine V_region ?_ | refine V_draw tmix (by kernel_rfl) ?_)
  repeat refine VO_d ?_
  (first | refine VO_nil ?_ | refine VQ_nil ?_)
  (first | refine V_seq_region ?_ | refine V_seq (V_seq_region ?_) | refine V_seq_draw tmix (by kernel_rfl) ?_ | refine V_seq (V_seq_draw tmix (by kernel_rfl) ?_) | refine V_region ?_ | refine V_draw tmix (by kernel_rfl) ?_)
  repeat refine VO_d ?_
  (first | refine VO_nil ?_ | refine VQ_nil ?_)
  (first | refine V_cond rfl (fun hc => ?_) (fun hc => ?_) | refine V_seq (V_cond rfl (fun hc => ?_) (fun hc => ?_)))
  · (first | refine V_seq_region ?_ | refine V_seq (V_seq_region ?_) | refine V_seq_draw tmix (by kernel_rfl) ?_ | refine V_seq (V_seq_draw tmix (by kernel_rfl) ?_) | refine V_region ?_ | refine V_draw tmix (by kernel_rfl) ?_)
    repeat refine VO_d ?_
    (first | refine VO_nil ?_ | refine VQ_nil ?_)
    refine V_ret ?_
    exact ⟨trivial, ⟨_, rfl, congrArg U.b (deq_false.2 (by intro h; injection h with _ h; subst h; simp at hc)).symm⟩, trivial⟩
  refine V_skip ?_
  have hll : us.length = vs.length := by simp at hc; omega
  (first | refine V_seq_region ?_ | refine V_seq (V_seq_region ?_) | refine V_seq_draw tmix (by kernel_rfl) ?_ | refine V_seq (V_seq_draw tmix (by kernel_rfl) ?_) | refine V_region ?_ | refine V_draw tmix (by kernel_rfl) ?_)
  repeat refine VO_d ?_
  (first | refine VO_nil ?_ | refine VQ_nil ?_)
  refine V_block ?_
  refine V_loop (α := Nat)
    (fun k => ⟨[(0, .d (.sl 3 us)), (1, .d (.sl 3 vs)), (2, .fn fi []), (15, .d (.sl 3 us)), (16, .d (.i .i64 us.length)), (17, .d (.i .i64 k))], [], Try.f61.ntmps⟩)
    (fun k => k ≤ us.length ∧ ∀ j, j < k → us[j]? = vs[j]?)
    (fun k => us.length - k) 0 ⟨rfl, ⟨⟨rfl, rfl⟩, ⟨rfl, rfl⟩, ⟨rfl, rfl⟩, ⟨rfl, rfl⟩, ⟨rfl, rfl⟩, ⟨rfl, rfl⟩, trivial⟩, ⟨[], rfl⟩, rfl⟩ ⟨by simp, by simp⟩ ?_
  rintro k ⟨hk, hsame⟩
  (first | refine V_seq_region ?_ | refine V_seq (V_seq_region ?_) | refine V_seq_draw tmix (by kernel_rfl) ?_ | refine V_seq (V_seq_draw tmix (by kernel_rfl) ?_) | refine V_region ?_ | refine V_draw tmix (by kernel_rfl) ?_)
  repeat refine VO_d ?_
  (first | refine VO_nil ?_ | refine VQ_nil ?_)
  (first | refine V_cond rfl (fun hc2 => ?_) (fun hc2 => ?_) | refine V_seq (V_cond rfl (fun hc2 => ?_) (fun hc2 => ?_)))
  · refine V_skip ?_
    simp only [decide_eq_true_eq] at hc2
    obtain ⟨a, hget⟩ : ∃ a, us[k]? = some a := ⟨_, List.getElem?_eq_getElem (by omega)⟩
    obtain ⟨b, hgev⟩ : ∃ b, vs[k]? = some b := ⟨_, List.getElem?_eq_getElem (by omega)⟩
    have hmem := List.mem_of_getElem? hget
    have hmev := List.mem_of_getElem? hgev
    have hcall := ih _ hmem _ hmev
    have heq' : deq a b = true → us[k]? = vs[k]? := fun h => by rw [hget, hgev, deq_true.1 h]
    have hne' : deq a b = false → us ≠ vs := fun h h3 => by subst h3; rw [hget] at hgev; injection hgev with hgev; subst hgev; rw [deq_self] at h; cases h
    obtain ⟨e1_0, e1_1, e1_2, rfl, g1_0, g1_1, g1_2⟩ := inv_Type (hw _ hmem)
    obtain ⟨e2_0, e2_1, e2_2, rfl, g2_0, g2_1, g2_2⟩ := inv_Type (hw2 _ hmev)
    refine V_seq (V_block ?_)
    (first | refine V_seq_region ?_ | refine V_seq (V_seq_region ?_) | refine V_seq_draw tmix (by kernel_rfl) ?_ | refine V_seq (V_seq_draw tmix (by kernel_rfl) ?_) | refine V_region ?_ | refine V_draw tmix (by kernel_rfl) ?_)
    repeat (first | refine VO_d ?_ | refine VQ_d ?_)
    (first | refine VO_q (Q_index rfl rfl TE.h TI.h (by omega) hget) rfl ?_ | refine VQ_q (Q_index rfl rfl TE.h TI.h (by omega) hget) rfl ?_ | (refine VO_bare rfl rfl rfl rfl ?_; refine VO_q (Q_index rfl rfl TE.h TI.h (by omega) hget) rfl ?_) | refine VQ_run rfl rfl rfl rfl (Q_index rfl rfl TE.h TI.h (by omega) hget) rfl ?_)
    repeat (first | refine VO_d ?_ | refine VQ_d ?_)
    (first | refine VO_nil ?_ | refine VQ_nil ?_)
    (first | refine V_seq_region ?_ | refine V_seq (V_seq_region ?_) | refine V_seq_draw tmix (by kernel_rfl) ?_ | refine V_seq (V_seq_draw tmix (by kernel_rfl) ?_) | refine V_region ?_ | refine V_draw tmix (by kernel_rfl) ?_)
    repeat (first | refine VO_d ?_ | refine VQ_d ?_)
    (first | refine VO_q (Q_index rfl rfl TE.h TI.h (by omega) hgev) rfl ?_ | refine VQ_q (Q_index rfl rfl TE.h TI.h (by omega) hgev) rfl ?_ | (refine VO_bare rfl rfl rfl rfl ?_; refine VO_q (Q_index rfl rfl TE.h TI.h (by omega) hgev) rfl ?_) | refine VQ_run rfl rfl rfl rfl (Q_index rfl rfl TE.h TI.h (by omega) hgev) rfl ?_)
    repeat (first | refine VO_d ?_ | refine VQ_d ?_)
    (first | refine VO_nil ?_ | refine VQ_nil ?_)
    (first | refine V_seq_region ?_ | refine V_seq (V_seq_region ?_) | refine V_seq_draw tmix (by kernel_rfl) ?_ | refine V_seq (V_seq_draw tmix (by kernel_rfl) ?_) | refine V_region ?_ | refine V_draw tmix (by kernel_rfl) ?_)
    repeat (first | refine VO_d ?_ | refine VQ_d ?_)
    (first | refine VO_q (Q_call rfl hcall (by repeat (first | exact trivial | exact rfl | exact ⟨_, rfl⟩ | refine And.intro ?_ ?_))) rfl ?_ | refine VQ_q (Q_call rfl hcall (by repeat (first | exact trivial | exact rfl | exact ⟨_, rfl⟩ | refine And.intro ?_ ?_))) rfl ?_ | (refine VO_bare rfl rfl rfl rfl ?_; refine VO_q (Q_call rfl hcall (by repeat (first | exact trivial | exact rfl | exact ⟨_, rfl⟩ | refine And.intro ?_ ?_))) rfl ?_) | refine VQ_run rfl rfl rfl rfl (Q_call rfl hcall (by repeat (first | exact trivial | exact rfl | exact ⟨_, rfl⟩ | refine And.intro ?_ ?_))) rfl ?_)
    repeat (first | refine VO_d ?_ | refine VQ_d ?_)
    (first | refine VO_nil ?_ | refine VQ_nil ?_)
    (first | refine V_cond rfl (fun hc3 => ?_) (fun hc3 => ?_) | refine V_seq (V_cond rfl (fun hc3 => ?_) (fun hc3 => ?_)))
    · (first | refine V_seq_region ?_ | refine V_seq (V_seq_region ?_) | refine V_seq_draw tmix (by kernel_rfl) ?_ | refine V_seq (V_seq_draw tmix (by kernel_rfl) ?_) | refine V_region ?_ | refine V_draw tmix (by kernel_rfl) ?_)
      repeat refine VO_d ?_
      (first | refine VO_nil ?_ | refine VQ_nil ?_)
      refine V_ret ?_
      exact ⟨trivial, ⟨_, rfl, congrArg U.b (deq_false.2 (by intro h; injection h with _ h; exact hne' (by simpa using hc3) h)).symm⟩, trivial⟩
    refine V_skip ?_
    have heq := heq' (by simpa using hc3)
    (first | refine V_seq_region ?_ | refine V_seq (V_seq_region ?_) | refine V_seq_draw tmix (by kernel_rfl) ?_ | refine V_seq (V_seq_draw tmix (by kernel_rfl) ?_) | refine V_region ?_ | refine V_draw tmix (by kernel_rfl) ?_)
    repeat refine VO_d ?_
    (first | refine VO_nil ?_ | refine VQ_nil ?_)
    refine ⟨k + 1, ⟨by omega, fun j hj => ?_⟩, by omega, ⟨rfl, ⟨⟨rfl, rfl⟩, ⟨rfl, rfl⟩, ⟨rfl, rfl⟩, ⟨rfl, rfl⟩, ⟨rfl, rfl⟩, ⟨rfl, rfl⟩, trivial⟩, ⟨_, rfl⟩, rfl⟩⟩
    by_cases hjk : j = k
    · subst hjk; exact heq
    · exact hsame j (by omega)
  · refine V_exit ?_
    simp only [decide_eq_false_iff_not] at hc2
    have hkl : k = us.length := by omega
    subst hkl
    have hall : us = vs := by
      apply List.ext_getElem?
      intro j
      by_cases hj : j < us.length
      · exact hsame j hj
      · rw [List.getElem?_eq_none (by omega), List.getElem?_eq_none (by omega)]
    show V _ _ _ _ _
    (first | refine V_seq_region ?_ | refine V_seq (V_seq_region ?_) | refine V_seq_draw tmix (by kernel_rfl) ?_ | refine V_seq (V_seq_draw tmix (by kernel_rfl) ?_) | refine V_region ?_ | refine V_draw tmix (by kernel_rfl) ?_)
    repeat refine VO_d ?_
    (first | refine VO_nil ?_ | refine VQ_nil ?_)
    refine V_ret ?_
    exact ⟨trivial, ⟨_, rfl, congrArg U.b (deq_true.2 (by rw [hall])).symm⟩, trivial⟩

set_option maxHeartbeats 4000000 in
theorem equalFunc_Evidence {fi : Nat} {us vs : List U} (hb1 : us.length ≤ big) (hb2 : vs.length ≤ big) (hw : ∀ a ∈ us, wt (.st 18) a) (hw2 : ∀ a ∈ vs, wt (.st 18) a) (ih : ∀ a ∈ us, ∀ b ∈ vs, PEq fi a b) :
    SpecP Try.prog 82 [.d (.sl 5 us), .d (.sl 5 vs), .fn fi []] [.b (deq (.sl 5 us) (.sl 5 vs))] := by
  rw [big_eq] at hb1 hb2
  refine SpecP_intro Try.func82 rfl (by kernel_rfl) rfl fun A => ?_
  (first | refine V_seq_region ?_ | refine V_seq (V_seq_region ?_) | refine V_seq_draw tmix (by kernel_rfl) ?_ | refine V_seq (V_seq_draw tmix (by kernel_rfl) ?_) | refine V_region ?_ | refine V_draw tmix (by kernel_rfl) ?_)
  repeat refine VO_d ?_
  (first | refine VO_nil ?_ | refine VQ_nil ?_)
  (first | refine V_seq_region ?_ | refine V_seq (V_seq_region ?_) | refine V_seq_draw tmix (by kernel_rfl) ?_ | refine V_seq (V_seq_draw tmix (by kernel_rfl) ?_) | refine V_region ?_ | refine V_draw tmix (by kernel_rfl) ?_)
  repeat refine VO_d ?_
  (first | refine VO_nil ?_ | refine VQ_nil ?_)
  (first | refine V_cond rfl (fun hc => ?_) (fun hc => ?_) | refine V_seq (V_cond rfl (fun hc => ?_) (fun hc => ?_)))
  · (first | refine V_seq_region ?_ | refine V_seq (V_seq_region ?_) | refine V_seq_draw tmix (by kernel_rfl) ?_ | refine V_seq (V_seq_draw tmix (by kernel_rfl) ?_) | refine V_region ?_ | refine V_draw tmix (by kernel_rfl) ?_)
    repeat refine VO_d ?_
    (first | refine VO_nil ?_ | refine VQ_nil ?_)
    refine V_ret ?_
    exact ⟨trivial, ⟨_, rfl, congrArg U.b (deq_false.2 (by intro h; injection h with _ h; subst h; simp at hc)).symm⟩, trivial⟩
  refine V_skip ?_
  have hll : us.length = vs.length := by simp at hc; omega
  (first | refine V_seq_region ?_ | refine V_seq (V_seq_region ?_) | refine V_seq_draw tmix (by kernel_rfl) ?_ | refine V_seq (V_seq_draw tmix (by kernel_rfl) ?_) | refine V_region ?_ | refine V_draw tmix (by kernel_rfl) ?_)
  repeat refine VO_d ?_
  (first | refine VO_nil ?_ | refine VQ_nil ?_)
  refine V_block ?_
  refine V_loop (α := Nat)
    (fun k => ⟨[(0, .d (.sl 5 us)), (1, .d (.sl 5 vs)), (2, .fn fi []), (15, .d (.sl 5 us)), (16, .d (.i .i64 us.length)), (17, .d (.i .i64 k))], [], Try.f82.ntmps⟩)
    (fun k => k ≤ us.length ∧ ∀ j, j < k → us[j]? = vs[j]?)
    (fun k => us.length - k) 0 ⟨rfl, ⟨⟨rfl, rfl⟩, ⟨rfl, rfl⟩, ⟨rfl, rfl⟩, ⟨rfl, rfl⟩, ⟨rfl, rfl⟩, ⟨rfl, rfl⟩, trivial⟩, ⟨[], rfl⟩, rfl⟩ ⟨by simp, by simp⟩ ?_
  rintro k ⟨hk, hsame⟩
  (first | refine V_seq_region ?_ | refine V_seq (V_seq_region ?_) | refine V_seq_draw tmix (by kernel_rfl) ?_ | refine V_seq (V_seq_draw tmix (by kernel_rfl) ?_) | refine V_region ?_ | refine V_draw tmix (by kernel_rfl) ?_)
  repeat refine VO_d ?_
  (first | refine VO_nil ?_ | refine VQ_nil ?_)
  (first | refine V_cond rfl (fun hc2 => ?_) (fun hc2 => ?_) | refine V_seq (V_cond rfl (fun hc2 => ?_) (fun hc2 => ?_)))
  · refine V_skip ?_
    simp only [decide_eq_true_eq] at hc2
    obtain ⟨a, hget⟩ : ∃ a, us[k]? = some a := ⟨_, List.getElem?_eq_getElem (by omega)⟩
    obtain ⟨b, hgev⟩ : ∃ b, vs[k]? = some b := ⟨_, List.getElem?_eq_getElem (by omega)⟩
    have hmem := List.mem_of_getElem? hget
    have hmev := List.mem_of_getElem? hgev
    have hcall := ih _ hmem _ hmev
    have heq' : deq a b = true → us[k]? = vs[k]? := fun h => by rw [hget, hgev, deq_true.1 h]
    have hne' : deq a b = false → us ≠ vs := fun h h3 => by subst h3; rw [hget] at hgev; injection hgev with hgev; subst hgev; rw [deq_self] at h; cases h
    obtain ⟨e3_0, e3_1, e3_2, e3_3, rfl, g3_0, g3_1, g3_2, g3_3⟩ := inv_Evidence (hw _ hmem)
    obtain ⟨e4_0, e4_1, rfl, g4_0, g4_1⟩ := inv_InstanceRef g3_2
    obtain ⟨e5_0, e5_1, e5_2, e5_3, rfl, g5_0, g5_1, g5_2, g5_3⟩ := inv_Evidence (hw2 _ hmev)
    obtain ⟨e6_0, e6_1, rfl, g6_0, g6_1⟩ := inv_InstanceRef g5_2
    refine V_seq (V_block ?_)
    (first | refine V_seq_region ?_ | refine V_seq (V_seq_region ?_) | refine V_seq_draw tmix (by kernel_rfl) ?_ | refine V_seq (V_seq_draw tmix (by kernel_rfl) ?_) | refine V_region ?_ | refine V_draw tmix (by kernel_rfl) ?_)
    repeat (first | refine VO_d ?_ | refine VQ_d ?_)
    (first | refine VO_q (Q_index rfl rfl TE.h TI.h (by omega) hget) rfl ?_ | refine VQ_q (Q_index rfl rfl TE.h TI.h (by omega) hget) rfl ?_ | (refine VO_bare rfl rfl rfl rfl ?_; refine VO_q (Q_index rfl rfl TE.h TI.h (by omega) hget) rfl ?_) | refine VQ_run rfl rfl rfl rfl (Q_index rfl rfl TE.h TI.h (by omega) hget) rfl ?_)
    repeat (first | refine VO_d ?_ | refine VQ_d ?_)
    (first | refine VO_nil ?_ | refine VQ_nil ?_)
    (first | refine V_seq_region ?_ | refine V_seq (V_seq_region ?_) | refine V_seq_draw tmix (by kernel_rfl) ?_ | refine V_seq (V_seq_draw tmix (by kernel_rfl) ?_) | refine V_region ?_ | refine V_draw tmix (by kernel_rfl) ?_)
    repeat (first | refine VO_d ?_ | refine VQ_d ?_)
    (first | refine VO_q (Q_index rfl rfl TE.h TI.h (by omega) hgev) rfl ?_ | refine VQ_q (Q_index rfl rfl TE.h TI.h (by omega) hgev) rfl ?_ | (refine VO_bare rfl rfl rfl rfl ?_; refine VO_q (Q_index rfl rfl TE.h TI.h (by omega) hgev) rfl ?_) | refine VQ_run rfl rfl rfl rfl (Q_index rfl rfl TE.h TI.h (by omega) hgev) rfl ?_)
    repeat (first | refine VO_d ?_ | refine VQ_d ?_)
    (first | refine VO_nil ?_ | refine VQ_nil ?_)
    (first | refine V_seq_region ?_ | refine V_seq (V_seq_region ?_) | refine V_seq_draw tmix (by kernel_rfl) ?_ | refine V_seq (V_seq_draw tmix (by kernel_rfl) ?_) | refine V_region ?_ | refine V_draw tmix (by kernel_rfl) ?_)
    repeat (first | refine VO_d ?_ | refine VQ_d ?_)
    (first | refine VO_q (Q_call rfl hcall (by repeat (first | exact trivial | exact rfl | exact ⟨_, rfl⟩ | refine And.intro ?_ ?_))) rfl ?_ | refine VQ_q (Q_call rfl hcall (by repeat (first | exact trivial | exact rfl | exact ⟨_, rfl⟩ | refine And.intro ?_ ?_))) rfl ?_ | (refine VO_bare rfl rfl rfl rfl ?_; refine VO_q (Q_call rfl hcall (by repeat (first | exact trivial | exact rfl | exact ⟨_, rfl⟩ | refine And.intro ?_ ?_))) rfl ?_) | refine VQ_run rfl rfl rfl rfl (Q_call rfl hcall (by repeat (first | exact trivial | exact rfl | exact ⟨_, rfl⟩ | refine And.intro ?_ ?_))) rfl ?_)
    repeat (first | refine VO_d ?_ | refine VQ_d ?_)
    (first | refine VO_nil ?_ | refine VQ_nil ?_)
    (first | refine V_cond rfl (fun hc3 => ?_) (fun hc3 => ?_) | refine V_seq (V_cond rfl (fun hc3 => ?_) (fun hc3 => ?_)))
    · (first | refine V_seq_region ?_ | refine V_seq (V_seq_region ?_) | refine V_seq_draw tmix (by kernel_rfl) ?_ | refine V_seq (V_seq_draw tmix (by kernel_rfl) ?_) | refine V_region ?_ | refine V_draw tmix (by kernel_rfl) ?_)
      repeat refine VO_d ?_
      (first | refine VO_nil ?_ | refine VQ_nil ?_)
      refine V_ret ?_
      exact ⟨trivial, ⟨_, rfl, congrArg U.b (deq_false.2 (by intro h; injection h with _ h; exact hne' (by simpa using hc3) h)).symm⟩, trivial⟩
    refine V_skip ?_
    have heq := heq' (by simpa using hc3)
    (first | refine V_seq_region ?_ | refine V_seq (V_seq_region ?_) | refine V_seq_draw tmix (by kernel_rfl) ?_ | refine V_seq (V_seq_draw tmix (by kernel_rfl) ?_) | refine V_region ?_ | refine V_draw tmix (by kernel_rfl) ?_)
    repeat refine VO_d ?_
    (first | refine VO_nil ?_ | refine VQ_nil ?_)
    refine ⟨k + 1, ⟨by omega, fun j hj => ?_⟩, by omega, ⟨rfl, ⟨⟨rfl, rfl⟩, ⟨rfl, rfl⟩, ⟨rfl, rfl⟩, ⟨rfl, rfl⟩, ⟨rfl, rfl⟩, ⟨rfl, rfl⟩, trivial⟩, ⟨_, rfl⟩, rfl⟩⟩
    by_cases hjk : j = k
    · subst hjk; exact heq
    · exact hsame j (by omega)
  · refine V_exit ?_
    simp only [decide_eq_false_iff_not] at hc2
    have hkl : k = us.length := by omega
    subst hkl
    have hall : us = vs := by
      apply List.ext_getElem?
      intro j
      by_cases hj : j < us.length
      · exact hsame j hj
      · rw [List.getElem?_eq_none (by omega), List.getElem?_eq_none (by omega)]
    show V _ _ _ _ _
    (first | refine V_seq_region ?_ | refine V_seq (V_seq_region ?_) | refine V_seq_draw tmix (by kernel_rfl) ?_ | refine V_seq (V_seq_draw tmix (by kernel_rfl) ?_) | refine V_region ?_ | refine V_draw tmix (by kernel_rfl) ?_)
    repeat refine VO_d ?_
    (first | refine VO_nil ?_ | refine VQ_nil ?_)
    refine V_ret ?_
    exact ⟨trivial, ⟨_, rfl, congrArg U.b (deq_true.2 (by rw [hall])).symm⟩, trivial⟩

set_option maxHeartbeats 4000000 in
theorem equalFunc_Core {fi : Nat} {us vs : List U} (hb1 : us.length ≤ big) (hb2 : vs.length ≤ big) (hw : ∀ a ∈ us, wt (.st 21) a) (hw2 : ∀ a ∈ vs, wt (.st 21) a) (ih : ∀ a ∈ us, ∀ b ∈ vs, PEq fi a b) :
    SpecP Try.prog 84 [.d (.sl 11 us), .d (.sl 11 vs), .fn fi []] [.b (deq (.sl 11 us) (.sl 11 vs))] := by
  rw [big_eq] at hb1 hb2
  refine SpecP_intro Try.func84 rfl (by kernel_rfl) rfl fun A => ?_
  (first | refine V_seq_region ?_ | refine V_seq (V_seq_region ?_) | refine V_seq_draw tmix (by kernel_rfl) ?_ | refine V_seq (V_seq_draw tmix (by kernel_rfl) ?_) | refine V_region ?_ | refine V_draw tmix (by kernel_rfl) ?_)
  repeat refine VO_d ?_
  (first | refine VO_nil ?_ | refine VQ_nil ?_)
  (first | refine V_seq_region ?_ | refine V_seq (V_seq_region ?_) | refine V_seq_draw tmix (by kernel_rfl) ?_ | refine V_seq (V_seq_draw tmix (by kernel_rfl) ?_) | refine V_region ?_ | refine V_draw tmix (by kernel_rfl) ?_)
  repeat refine VO_d ?_
  (first | refine VO_nil ?_ | refine VQ_nil ?_)
  (first | refine V_cond rfl (fun hc => ?_) (fun hc => ?_) | refine V_seq (V_cond rfl (fun hc => ?_) (fun hc => ?_)))
  · (first | refine V_seq_region ?_ | refine V_seq (V_seq_region ?_) | refine V_seq_draw tmix (by kernel_rfl) ?_ | refine V_seq (V_seq_draw tmix (by kernel_rfl) ?_) | refine V_region ?_ | refine V_draw tmix (by kernel_rfl) ?_)
    repeat refine VO_d ?_
    (first | refine VO_nil ?_ | refine VQ_nil ?_)
    refine V_ret ?_
    exact ⟨trivial, ⟨_, rfl, congrArg U.b (deq_false.2 (by intro h; injection h with _ h; subst h; simp at hc)).symm⟩, trivial⟩
  refine V_skip ?_
  have hll : us.length = vs.length := by simp at hc; omega
  (first | refine V_seq_region ?_ | refine V_seq (V_seq_region ?_) | refine V_seq_draw tmix (by kernel_rfl) ?_ | refine V_seq (V_seq_draw tmix (by kernel_rfl) ?_) | refine V_region ?_ | refine V_draw tmix (by kernel_rfl) ?_)
  repeat refine VO_d ?_
  (first | refine VO_nil ?_ | refine VQ_nil ?_)
  refine V_block ?_
  refine V_loop (α := Nat)
    (fun k => ⟨[(0, .d (.sl 11 us)), (1, .d (.sl 11 vs)), (2, .fn fi []), (15, .d (.sl 11 us)), (16, .d (.i .i64 us.length)), (17, .d (.i .i64 k))], [], Try.f84.ntmps⟩)
    (fun k => k ≤ us.length ∧ ∀ j, j < k → us[j]? = vs[j]?)
    (fun k => us.length - k) 0 ⟨rfl, ⟨⟨rfl, rfl⟩, ⟨rfl, rfl⟩, ⟨rfl, rfl⟩, ⟨rfl, rfl⟩, ⟨rfl, rfl⟩, ⟨rfl, rfl⟩, trivial⟩, ⟨[], rfl⟩, rfl⟩ ⟨by simp, by simp⟩ ?_
  rintro k ⟨hk, hsame⟩
  (first | refine V_seq_region ?_ | refine V_seq (V_seq_region ?_) | refine V_seq_draw tmix (by kernel_rfl) ?_ | refine V_seq (V_seq_draw tmix (by kernel_rfl) ?_) | refine V_region ?_ | refine V_draw tmix (by kernel_rfl) ?_)
  repeat refine VO_d ?_
  (first | refine VO_nil ?_ | refine VQ_nil ?_)
  (first | refine V_cond rfl (fun hc2 => ?_) (fun hc2 => ?_) | refine V_seq (V_cond rfl (fun hc2 => ?_) (fun hc2 => ?_)))
  · refine V_skip ?_
    simp only [decide_eq_true_eq] at hc2
    obtain ⟨a, hget⟩ : ∃ a, us[k]? = some a := ⟨_, List.getElem?_eq_getElem (by omega)⟩
    obtain ⟨b, hgev⟩ : ∃ b, vs[k]? = some b := ⟨_, List.getElem?_eq_getElem (by omega)⟩
    have hmem := List.mem_of_getElem? hget
    have hmev := List.mem_of_getElem? hgev
    have hcall := ih _ hmem _ hmev
    have heq' : deq a b = true → us[k]? = vs[k]? := fun h => by rw [hget, hgev, deq_true.1 h]
    have hne' : deq a b = false → us ≠ vs := fun h h3 => by subst h3; rw [hget] at hgev; injection hgev with hgev; subst hgev; rw [deq_self] at h; cases h
    obtain ⟨e7_0, e7_1, e7_2, e7_3, e7_4, e7_5, e7_6, e7_7, e7_8, rfl, g7_0, g7_1, g7_2, g7_3, g7_4, g7_5, g7_6, g7_7, g7_8⟩ := inv_Core (hw _ hmem)
    obtain ⟨e8_0, e8_1, e8_2, rfl, g8_0, g8_1, g8_2⟩ := inv_Type g7_4
    obtain ⟨e9_0, e9_1, e9_2, e9_3, e9_4, e9_5, e9_6, e9_7, e9_8, rfl, g9_0, g9_1, g9_2, g9_3, g9_4, g9_5, g9_6, g9_7, g9_8⟩ := inv_Core (hw2 _ hmev)
    obtain ⟨e10_0, e10_1, e10_2, rfl, g10_0, g10_1, g10_2⟩ := inv_Type g9_4
    refine V_seq (V_block ?_)
    (first | refine V_seq_region ?_ | refine V_seq (V_seq_region ?_) | refine V_seq_draw tmix (by kernel_rfl) ?_ | refine V_seq (V_seq_draw tmix (by kernel_rfl) ?_) | refine V_region ?_ | refine V_draw tmix (by kernel_rfl) ?_)
    repeat (first | refine VO_d ?_ | refine VQ_d ?_)
    (first | refine VO_q (Q_index rfl rfl TE.h TI.h (by omega) hget) rfl ?_ | refine VQ_q (Q_index rfl rfl TE.h TI.h (by omega) hget) rfl ?_ | (refine VO_bare rfl rfl rfl rfl ?_; refine VO_q (Q_index rfl rfl TE.h TI.h (by omega) hget) rfl ?_) | refine VQ_run rfl rfl rfl rfl (Q_index rfl rfl TE.h TI.h (by omega) hget) rfl ?_)
    repeat (first | refine VO_d ?_ | refine VQ_d ?_)
    (first | refine VO_nil ?_ | refine VQ_nil ?_)
    (first | refine V_seq_region ?_ | refine V_seq (V_seq_region ?_) | refine V_seq_draw tmix (by kernel_rfl) ?_ | refine V_seq (V_seq_draw tmix (by kernel_rfl) ?_) | refine V_region ?_ | refine V_draw tmix (by kernel_rfl) ?_)
    repeat (first | refine VO_d ?_ | refine VQ_d ?_)
    (first | refine VO_q (Q_index rfl rfl TE.h TI.h (by omega) hgev) rfl ?_ | refine VQ_q (Q_index rfl rfl TE.h TI.h (by omega) hgev) rfl ?_ | (refine VO_bare rfl rfl rfl rfl ?_; refine VO_q (Q_index rfl rfl TE.h TI.h (by omega) hgev) rfl ?_) | refine VQ_run rfl rfl rfl rfl (Q_index rfl rfl TE.h TI.h (by omega) hgev) rfl ?_)
    repeat (first | refine VO_d ?_ | refine VQ_d ?_)
    (first | refine VO_nil ?_ | refine VQ_nil ?_)
    (first | refine V_seq_region ?_ | refine V_seq (V_seq_region ?_) | refine V_seq_draw tmix (by kernel_rfl) ?_ | refine V_seq (V_seq_draw tmix (by kernel_rfl) ?_) | refine V_region ?_ | refine V_draw tmix (by kernel_rfl) ?_)
    repeat (first | refine VO_d ?_ | refine VQ_d ?_)
    (first | refine VO_q (Q_call rfl hcall (by repeat (first | exact trivial | exact rfl | exact ⟨_, rfl⟩ | refine And.intro ?_ ?_))) rfl ?_ | refine VQ_q (Q_call rfl hcall (by repeat (first | exact trivial | exact rfl | exact ⟨_, rfl⟩ | refine And.intro ?_ ?_))) rfl ?_ | (refine VO_bare rfl rfl rfl rfl ?_; refine VO_q (Q_call rfl hcall (by repeat (first | exact trivial | exact rfl | exact ⟨_, rfl⟩ | refine And.intro ?_ ?_))) rfl ?_) | refine VQ_run rfl rfl rfl rfl (Q_call rfl hcall (by repeat (first | exact trivial | exact rfl | exact ⟨_, rfl⟩ | refine And.intro ?_ ?_))) rfl ?_)
    repeat (first | refine VO_d ?_ | refine VQ_d ?_)
    (first | refine VO_nil ?_ | refine VQ_nil ?_)
    (first | refine V_cond rfl (fun hc3 => ?_) (fun hc3 => ?_) | refine V_seq (V_cond rfl (fun hc3 => ?_) (fun hc3 => ?_)))
    · (first | refine V_seq_region ?_ | refine V_seq (V_seq_region ?_) | refine V_seq_draw tmix (by kernel_rfl) ?_ | refine V_seq (V_seq_draw tmix (by kernel_rfl) ?_) | refine V_region ?_ | refine V_draw tmix (by kernel_rfl) ?_)
      repeat refine VO_d ?_
      (first | refine VO_nil ?_ | refine VQ_nil ?_)
      refine V_ret ?_
      exact ⟨trivial, ⟨_, rfl, congrArg U.b (deq_false.2 (by intro h; injection h with _ h; exact hne' (by simpa using hc3) h)).symm⟩, trivial⟩
    refine V_skip ?_
    have heq := heq' (by simpa using hc3)
    (first | refine V_seq_region ?_ | refine V_seq (V_seq_region ?_) | refine V_seq_draw tmix (by kernel_rfl) ?_ | refine V_seq (V_seq_draw tmix (by kernel_rfl) ?_) | refine V_region ?_ | refine V_draw tmix (by kernel_rfl) ?_)
    repeat refine VO_d ?_
    (first | refine VO_nil ?_ | refine VQ_nil ?_)
    refine ⟨k + 1, ⟨by omega, fun j hj => ?_⟩, by omega, ⟨rfl, ⟨⟨rfl, rfl⟩, ⟨rfl, rfl⟩, ⟨rfl, rfl⟩, ⟨rfl, rfl⟩, ⟨rfl, rfl⟩, ⟨rfl, rfl⟩, trivial⟩, ⟨_, rfl⟩, rfl⟩⟩
    by_cases hjk : j = k
    · subst hjk; exact heq
    · exact hsame j (by omega)
  · refine V_exit ?_
    simp only [decide_eq_false_iff_not] at hc2
    have hkl : k = us.length := by omega
    subst hkl
    have hall : us = vs := by
      apply List.ext_getElem?
      intro j
      by_cases hj : j < us.length
      · exact hsame j hj
      · rw [List.getElem?_eq_none (by omega), List.getElem?_eq_none (by omega)]
    show V _ _ _ _ _
    (first | refine V_seq_region ?_ | refine V_seq (V_seq_region ?_) | refine V_seq_draw tmix (by kernel_rfl) ?_ | refine V_seq (V_seq_draw tmix (by kernel_rfl) ?_) | refine V_region ?_ | refine V_draw tmix (by kernel_rfl) ?_)
    repeat refine VO_d ?_
    (first | refine VO_nil ?_ | refine VQ_nil ?_)
    refine V_ret ?_
    exact ⟨trivial, ⟨_, rfl, congrArg U.b (deq_true.2 (by rw [hall])).symm⟩, trivial⟩

set_option maxHeartbeats 4000000 in
theorem equalFunc_CoreArm {fi : Nat} {us vs : List U} (hb1 : us.length ≤ big) (hb2 : vs.length ≤ big) (hw : ∀ a ∈ us, wt (.st 20) a) (hw2 : ∀ a ∈ vs, wt (.st 20) a) (ih : ∀ a ∈ us, ∀ b ∈ vs, PEq fi a b) :
    SpecP Try.prog 85 [.d (.sl 13 us), .d (.sl 13 vs), .fn fi []] [.b (deq (.sl 13 us) (.sl 13 vs))] := by
  rw [big_eq] at hb1 hb2
  refine SpecP_intro Try.func85 rfl (by kernel_rfl) rfl fun A => ?_
  (first | refine V_seq_region ?_ | refine V_seq (V_seq_region ?_) | refine V_seq_draw tmix (by kernel_rfl) ?_ | refine V_seq (V_seq_draw tmix (by kernel_rfl) ?_) | refine V_region ?_ | refine V_draw tmix (by kernel_rfl) ?_)
  repeat refine VO_d ?_
  (first | refine VO_nil ?_ | refine VQ_nil ?_)
  (first | refine V_seq_region ?_ | refine V_seq (V_seq_region ?_) | refine V_seq_draw tmix (by kernel_rfl) ?_ | refine V_seq (V_seq_draw tmix (by kernel_rfl) ?_) | refine V_region ?_ | refine V_draw tmix (by kernel_rfl) ?_)
  repeat refine VO_d ?_
  (first | refine VO_nil ?_ | refine VQ_nil ?_)
  (first | refine V_cond rfl (fun hc => ?_) (fun hc => ?_) | refine V_seq (V_cond rfl (fun hc => ?_) (fun hc => ?_)))
  · (first | refine V_seq_region ?_ | refine V_seq (V_seq_region ?_) | refine V_seq_draw tmix (by kernel_rfl) ?_ | refine V_seq (V_seq_draw tmix (by kernel_rfl) ?_) | refine V_region ?_ | refine V_draw tmix (by kernel_rfl) ?_)
    repeat refine VO_d ?_
    (first | refine VO_nil ?_ | refine VQ_nil ?_)
    refine V_ret ?_
    exact ⟨trivial, ⟨_, rfl, congrArg U.b (deq_false.2 (by intro h; injection h with _ h; subst h; simp at hc)).symm⟩, trivial⟩
  refine V_skip ?_
  have hll : us.length = vs.length := by simp at hc; omega
  (first | refine V_seq_region ?_ | refine V_seq (V_seq_region ?_) | refine V_seq_draw tmix (by kernel_rfl) ?_ | refine V_seq (V_seq_draw tmix (by kernel_rfl) ?_) | refine V_region ?_ | refine V_draw tmix (by kernel_rfl) ?_)
  repeat refine VO_d ?_
  (first | refine VO_nil ?_ | refine VQ_nil ?_)
  refine V_block ?_
  refine V_loop (α := Nat)
    (fun k => ⟨[(0, .d (.sl 13 us)), (1, .d (.sl 13 vs)), (2, .fn fi []), (15, .d (.sl 13 us)), (16, .d (.i .i64 us.length)), (17, .d (.i .i64 k))], [], Try.f85.ntmps⟩)
    (fun k => k ≤ us.length ∧ ∀ j, j < k → us[j]? = vs[j]?)
    (fun k => us.length - k) 0 ⟨rfl, ⟨⟨rfl, rfl⟩, ⟨rfl, rfl⟩, ⟨rfl, rfl⟩, ⟨rfl, rfl⟩, ⟨rfl, rfl⟩, ⟨rfl, rfl⟩, trivial⟩, ⟨[], rfl⟩, rfl⟩ ⟨by simp, by simp⟩ ?_
  rintro k ⟨hk, hsame⟩
  (first | refine V_seq_region ?_ | refine V_seq (V_seq_region ?_) | refine V_seq_draw tmix (by kernel_rfl) ?_ | refine V_seq (V_seq_draw tmix (by kernel_rfl) ?_) | refine V_region ?_ | refine V_draw tmix (by kernel_rfl) ?_)
  repeat refine VO_d ?_
  (first | refine VO_nil ?_ | refine VQ_nil ?_)
  (first | refine V_cond rfl (fun hc2 => ?_) (fun hc2 => ?_) | refine V_seq (V_cond rfl (fun hc2 => ?_) (fun hc2 => ?_)))
  · refine V_skip ?_
    simp only [decide_eq_true_eq] at hc2
    obtain ⟨a, hget⟩ : ∃ a, us[k]? = some a := ⟨_, List.getElem?_eq_getElem (by omega)⟩
    obtain ⟨b, hgev⟩ : ∃ b, vs[k]? = some b := ⟨_, List.getElem?_eq_getElem (by omega)⟩
    have hmem := List.mem_of_getElem? hget
    have hmev := List.mem_of_getElem? hgev
    have hcall := ih _ hmem _ hmev
    have heq' : deq a b = true → us[k]? = vs[k]? := fun h => by rw [hget, hgev, deq_true.1 h]
    have hne' : deq a b = false → us ≠ vs := fun h h3 => by subst h3; rw [hget] at hgev; injection hgev with hgev; subst hgev; rw [deq_self] at h; cases h
    obtain ⟨e11_0, e11_1, e11_2, rfl, g11_0, g11_1, g11_2⟩ := inv_CoreArm (hw _ hmem)
    obtain ⟨e12_0, e12_1, e12_2, e12_3, e12_4, e12_5, e12_6, e12_7, e12_8, rfl, g12_0, g12_1, g12_2, g12_3, g12_4, g12_5, g12_6, g12_7, g12_8⟩ := inv_Core g11_2
    obtain ⟨e13_0, e13_1, e13_2, rfl, g13_0, g13_1, g13_2⟩ := inv_Type g12_4
    obtain ⟨e14_0, e14_1, e14_2, rfl, g14_0, g14_1, g14_2⟩ := inv_CoreArm (hw2 _ hmev)
    obtain ⟨e15_0, e15_1, e15_2, e15_3, e15_4, e15_5, e15_6, e15_7, e15_8, rfl, g15_0, g15_1, g15_2, g15_3, g15_4, g15_5, g15_6, g15_7, g15_8⟩ := inv_Core g14_2
    obtain ⟨e16_0, e16_1, e16_2, rfl, g16_0, g16_1, g16_2⟩ := inv_Type g15_4
    refine V_seq (V_block ?_)
    (first | refine V_seq_region ?_ | refine V_seq (V_seq_region ?_) | refine V_seq_draw tmix (by kernel_rfl) ?_ | refine V_seq (V_seq_draw tmix (by kernel_rfl) ?_) | refine V_region ?_ | refine V_draw tmix (by kernel_rfl) ?_)
    repeat (first | refine VO_d ?_ | refine VQ_d ?_)
    (first | refine VO_q (Q_index rfl rfl TE.h TI.h (by omega) hget) rfl ?_ | refine VQ_q (Q_index rfl rfl TE.h TI.h (by omega) hget) rfl ?_ | (refine VO_bare rfl rfl rfl rfl ?_; refine VO_q (Q_index rfl rfl TE.h TI.h (by omega) hget) rfl ?_) | refine VQ_run rfl rfl rfl rfl (Q_index rfl rfl TE.h TI.h (by omega) hget) rfl ?_)
    repeat (first | refine VO_d ?_ | refine VQ_d ?_)
    (first | refine VO_nil ?_ | refine VQ_nil ?_)
    (first | refine V_seq_region ?_ | refine V_seq (V_seq_region ?_) | refine V_seq_draw tmix (by kernel_rfl) ?_ | refine V_seq (V_seq_draw tmix (by kernel_rfl) ?_) | refine V_region ?_ | refine V_draw tmix (by kernel_rfl) ?_)
    repeat (first | refine VO_d ?_ | refine VQ_d ?_)
    (first | refine VO_q (Q_index rfl rfl TE.h TI.h (by omega) hgev) rfl ?_ | refine VQ_q (Q_index rfl rfl TE.h TI.h (by omega) hgev) rfl ?_ | (refine VO_bare rfl rfl rfl rfl ?_; refine VO_q (Q_index rfl rfl TE.h TI.h (by omega) hgev) rfl ?_) | refine VQ_run rfl rfl rfl rfl (Q_index rfl rfl TE.h TI.h (by omega) hgev) rfl ?_)
    repeat (first | refine VO_d ?_ | refine VQ_d ?_)
    (first | refine VO_nil ?_ | refine VQ_nil ?_)
    (first | refine V_seq_region ?_ | refine V_seq (V_seq_region ?_) | refine V_seq_draw tmix (by kernel_rfl) ?_ | refine V_seq (V_seq_draw tmix (by kernel_rfl) ?_) | refine V_region ?_ | refine V_draw tmix (by kernel_rfl) ?_)
    repeat (first | refine VO_d ?_ | refine VQ_d ?_)
    (first | refine VO_q (Q_call rfl hcall (by repeat (first | exact trivial | exact rfl | exact ⟨_, rfl⟩ | refine And.intro ?_ ?_))) rfl ?_ | refine VQ_q (Q_call rfl hcall (by repeat (first | exact trivial | exact rfl | exact ⟨_, rfl⟩ | refine And.intro ?_ ?_))) rfl ?_ | (refine VO_bare rfl rfl rfl rfl ?_; refine VO_q (Q_call rfl hcall (by repeat (first | exact trivial | exact rfl | exact ⟨_, rfl⟩ | refine And.intro ?_ ?_))) rfl ?_) | refine VQ_run rfl rfl rfl rfl (Q_call rfl hcall (by repeat (first | exact trivial | exact rfl | exact ⟨_, rfl⟩ | refine And.intro ?_ ?_))) rfl ?_)
    repeat (first | refine VO_d ?_ | refine VQ_d ?_)
    (first | refine VO_nil ?_ | refine VQ_nil ?_)
    (first | refine V_cond rfl (fun hc3 => ?_) (fun hc3 => ?_) | refine V_seq (V_cond rfl (fun hc3 => ?_) (fun hc3 => ?_)))
    · (first | refine V_seq_region ?_ | refine V_seq (V_seq_region ?_) | refine V_seq_draw tmix (by kernel_rfl) ?_ | refine V_seq (V_seq_draw tmix (by kernel_rfl) ?_) | refine V_region ?_ | refine V_draw tmix (by kernel_rfl) ?_)
      repeat refine VO_d ?_
      (first | refine VO_nil ?_ | refine VQ_nil ?_)
      refine V_ret ?_
      exact ⟨trivial, ⟨_, rfl, congrArg U.b (deq_false.2 (by intro h; injection h with _ h; exact hne' (by simpa using hc3) h)).symm⟩, trivial⟩
    refine V_skip ?_
    have heq := heq' (by simpa using hc3)
    (first | refine V_seq_region ?_ | refine V_seq (V_seq_region ?_) | refine V_seq_draw tmix (by kernel_rfl) ?_ | refine V_seq (V_seq_draw tmix (by kernel_rfl) ?_) | refine V_region ?_ | refine V_draw tmix (by kernel_rfl) ?_)
    repeat refine VO_d ?_
    (first | refine VO_nil ?_ | refine VQ_nil ?_)
    refine ⟨k + 1, ⟨by omega, fun j hj => ?_⟩, by omega, ⟨rfl, ⟨⟨rfl, rfl⟩, ⟨rfl, rfl⟩, ⟨rfl, rfl⟩, ⟨rfl, rfl⟩, ⟨rfl, rfl⟩, ⟨rfl, rfl⟩, trivial⟩, ⟨_, rfl⟩, rfl⟩⟩
    by_cases hjk : j = k
    · subst hjk; exact heq
    · exact hsame j (by omega)
  · refine V_exit ?_
    simp only [decide_eq_false_iff_not] at hc2
    have hkl : k = us.length := by omega
    subst hkl
    have hall : us = vs := by
      apply List.ext_getElem?
      intro j
      by_cases hj : j < us.length
      · exact hsame j hj
      · rw [List.getElem?_eq_none (by omega), List.getElem?_eq_none (by omega)]
    show V _ _ _ _ _
    (first | refine V_seq_region ?_ | refine V_seq (V_seq_region ?_) | refine V_seq_draw tmix (by kernel_rfl) ?_ | refine V_seq (V_seq_draw tmix (by kernel_rfl) ?_) | refine V_region ?_ | refine V_draw tmix (by kernel_rfl) ?_)
    repeat refine VO_d ?_
    (first | refine VO_nil ?_ | refine VQ_nil ?_)
    refine V_ret ?_
    exact ⟨trivial, ⟨_, rfl, congrArg U.b (deq_true.2 (by rw [hall])).symm⟩, trivial⟩

set_option maxHeartbeats 8000000 in
theorem implType_step {f0 : Int} {f1 : List UInt8} {f2 : List U} {d0 : Int} {d1 : List UInt8} {d2 : List U} (h2 : SpecP Try.prog 61 [.d (.sl 3 f2), .d (.sl 3 d2), .fn 34 []] [.b (deq (.sl 3 f2) (.sl 3 d2))]) : PEq 34 (.st [.i .i64 f0, .s f1, .sl 3 f2]) (.st [.i .i64 d0, .s d1, .sl 3 d2]) := by
  obtain ⟨r2, s2⟩ : ∃ r, deq (.sl 3 f2) (.sl 3 d2) = r := ⟨_, rfl⟩
  rw [s2] at h2
  refine SpecP_intro Try.func34 rfl (by kernel_rfl) rfl fun A => ?_
  (first | refine V_seq_region ?_ | refine V_seq (V_seq_region ?_) | refine V_seq_draw tmix (by kernel_rfl) ?_ | refine V_seq (V_seq_draw tmix (by kernel_rfl) ?_) | refine V_region ?_ | refine V_draw tmix (by kernel_rfl) ?_)
  repeat refine VO_d ?_
  (first | refine VO_nil ?_ | refine VQ_nil ?_)
  (first | refine V_seq_region ?_ | refine V_seq (V_seq_region ?_) | refine V_seq_draw tmix (by kernel_rfl) ?_ | refine V_seq (V_seq_draw tmix (by kernel_rfl) ?_) | refine V_region ?_ | refine V_draw tmix (by kernel_rfl) ?_)
  repeat refine VO_d ?_
  cases k0 : (f0 == d0)
  · repeat refine VO_d ?_
    (first | refine VO_nil ?_ | refine VQ_nil ?_)
    refine V_ret ?_
    exact ⟨trivial, ⟨_, rfl, congrArg U.b (deq_false.2 (by intro h; cases h; simp [deq_self] at k0)).symm⟩, trivial⟩
  repeat refine VO_d ?_
  cases k1 : (f1 == d1)
  · repeat refine VO_d ?_
    (first | refine VO_nil ?_ | refine VQ_nil ?_)
    refine V_ret ?_
    exact ⟨trivial, ⟨_, rfl, congrArg U.b (deq_false.2 (by intro h; cases h; simp [deq_self] at k1)).symm⟩, trivial⟩
  repeat refine VO_d ?_
  (first | refine VO_q (Q_call rfl h2 (by repeat (first | exact trivial | exact rfl | exact ⟨_, rfl⟩ | refine And.intro ?_ ?_))) rfl ?_ | refine VQ_q (Q_call rfl h2 (by repeat (first | exact trivial | exact rfl | exact ⟨_, rfl⟩ | refine And.intro ?_ ?_))) rfl ?_ | (refine VO_bare rfl rfl rfl rfl ?_; refine VO_q (Q_call rfl h2 (by repeat (first | exact trivial | exact rfl | exact ⟨_, rfl⟩ | refine And.intro ?_ ?_))) rfl ?_) | refine VQ_run rfl rfl rfl rfl (Q_call rfl h2 (by repeat (first | exact trivial | exact rfl | exact ⟨_, rfl⟩ | refine And.intro ?_ ?_))) rfl ?_)
  repeat refine VO_d ?_
  cases r2
  · repeat refine VO_d ?_
    (first | refine VO_nil ?_ | refine VQ_nil ?_)
    refine V_ret ?_
    exact ⟨trivial, ⟨_, rfl, congrArg U.b (deq_false.2 (by intro h; cases h; simp [deq_self] at s2)).symm⟩, trivial⟩
  repeat refine VO_d ?_
  (first | refine VO_nil ?_ | refine VQ_nil ?_)
  refine V_ret ?_
  have e0 : f0 = d0 := by simpa using k0
  have e1 : f1 = d1 := by simpa using k1
  exact ⟨trivial, ⟨_, rfl, congrArg U.b (deq_true.2 (by rw [e0, e1, deq_true.1 s2])).symm⟩, trivial⟩

theorem implEqualType (u : U) : wt (.st 1) u → ∀ v, wt (.st 1) v → PEq 34 u v := by
  refine U.ind (M := fun u => wt (.st 1) u → ∀ v, wt (.st 1) v → PEq 34 u v) (fun u ih h v h2 => ?_) u
  obtain ⟨f0, f1, f2, rfl, p0, p1, p2⟩ := inv_Type h
  obtain ⟨d0, d1, d2, rfl, q0, q1, q2⟩ := inv_Type h2
  exact implType_step (equalFunc_Type (fi := 34) p2.1 q2.1 p2.2 q2.2 (fun a ha b hb => ih a (by have := nn_of_mem ha; simp only [U.nn, U.nns]; omega) (p2.2 a ha) b (q2.2 b hb)))

theorem implTypes {us vs : List U} (h : us.length ≤ big ∧ ∀ x ∈ us, wt (.st 1) x) (h2 : vs.length ≤ big ∧ ∀ x ∈ vs, wt (.st 1) x) : PEq 40 (.sl 3 us) (.sl 3 vs) := by
  have hF := equalFunc_Type (fi := 34) h.1 h2.1 h.2 h2.2 (fun a ha b hb => implEqualType a (h.2 a ha) b (h2.2 b hb))
  refine SpecP_intro Try.func40 rfl (by kernel_rfl) rfl fun A => ?_
  (first | refine V_seq_region ?_ | refine V_seq (V_seq_region ?_) | refine V_seq_draw tmix (by kernel_rfl) ?_ | refine V_seq (V_seq_draw tmix (by kernel_rfl) ?_) | refine V_region ?_ | refine V_draw tmix (by kernel_rfl) ?_)
  repeat refine VO_d ?_
  (first | refine VO_nil ?_ | refine VQ_nil ?_)
  (first | refine V_seq_region ?_ | refine V_seq (V_seq_region ?_) | refine V_seq_draw tmix (by kernel_rfl) ?_ | refine V_seq (V_seq_draw tmix (by kernel_rfl) ?_) | refine V_region ?_ | refine V_draw tmix (by kernel_rfl) ?_)
  repeat (first | refine VO_d ?_ | refine VQ_d ?_ | (first | refine VO_q (Q_call rfl hF (by repeat (first | exact trivial | exact rfl | exact ⟨_, rfl⟩ | refine And.intro ?_ ?_))) rfl ?_ | refine VQ_q (Q_call rfl hF (by repeat (first | exact trivial | exact rfl | exact ⟨_, rfl⟩ | refine And.intro ?_ ?_))) rfl ?_ | (refine VO_bare rfl rfl rfl rfl ?_; refine VO_q (Q_call rfl hF (by repeat (first | exact trivial | exact rfl | exact ⟨_, rfl⟩ | refine And.intro ?_ ?_))) rfl ?_) | refine VQ_run rfl rfl rfl rfl (Q_call rfl hF (by repeat (first | exact trivial | exact rfl | exact ⟨_, rfl⟩ | refine And.intro ?_ ?_))) rfl ?_))
  (first | refine VO_nil ?_ | refine VQ_nil ?_)
  refine V_ret ?_
  exact ⟨trivial, ⟨_, rfl, rfl⟩, trivial⟩

set_option maxHeartbeats 8000000 in
theorem implEvidence_step {f0 : Int} {f1 : Int} {f2 : U} {f3 : List U} {d0 : Int} {d1 : Int} {d2 : U} {d3 : List U} (g2 : wt (.st 16) f2) (j2 : wt (.st 16) d2) (h3 : SpecP Try.prog 82 [.d (.sl 5 f3), .d (.sl 5 d3), .fn 83 []] [.b (deq (.sl 5 f3) (.sl 5 d3))]) : PEq 83 (.st [.i .i64 f0, .i .i64 f1, f2, .sl 5 f3]) (.st [.i .i64 d0, .i .i64 d1, d2, .sl 5 d3]) := by
  obtain ⟨r3, s3⟩ : ∃ r, deq (.sl 5 f3) (.sl 5 d3) = r := ⟨_, rfl⟩
  rw [s3] at h3
  obtain ⟨f2_0, f2_1, rfl, g2_0, g2_1⟩ := inv_InstanceRef g2
  obtain ⟨d2_0, d2_1, rfl, j2_0, j2_1⟩ := inv_InstanceRef j2
  refine SpecP_intro Try.func83 rfl (by kernel_rfl) rfl fun A => ?_
  (first | refine V_seq_region ?_ | refine V_seq (V_seq_region ?_) | refine V_seq_draw tmix (by kernel_rfl) ?_ | refine V_seq (V_seq_draw tmix (by kernel_rfl) ?_) | refine V_region ?_ | refine V_draw tmix (by kernel_rfl) ?_)
  repeat refine VO_d ?_
  (first | refine VO_nil ?_ | refine VQ_nil ?_)
  (first | refine V_seq_region ?_ | refine V_seq (V_seq_region ?_) | refine V_seq_draw tmix (by kernel_rfl) ?_ | refine V_seq (V_seq_draw tmix (by kernel_rfl) ?_) | refine V_region ?_ | refine V_draw tmix (by kernel_rfl) ?_)
  repeat refine VO_d ?_
  cases k0 : (f0 == d0)
  · repeat refine VO_d ?_
    (first | refine VO_nil ?_ | refine VQ_nil ?_)
    refine V_ret ?_
    exact ⟨trivial, ⟨_, rfl, congrArg U.b (deq_false.2 (by intro h; cases h; simp [deq_self] at k0)).symm⟩, trivial⟩
  repeat refine VO_d ?_
  cases k1 : (f1 == d1)
  · repeat refine VO_d ?_
    (first | refine VO_nil ?_ | refine VQ_nil ?_)
    refine V_ret ?_
    exact ⟨trivial, ⟨_, rfl, congrArg U.b (deq_false.2 (by intro h; cases h; simp [deq_self] at k1)).symm⟩, trivial⟩
  repeat refine VO_d ?_
  cases k2 : (f2_0 == d2_0 && f2_1 == d2_1)
  · repeat refine VO_d ?_
    (first | refine VO_nil ?_ | refine VQ_nil ?_)
    refine V_ret ?_
    exact ⟨trivial, ⟨_, rfl, congrArg U.b (deq_false.2 (by intro h; cases h; simp [deq_self] at k2)).symm⟩, trivial⟩
  repeat refine VO_d ?_
  (first | refine VO_q (Q_call rfl h3 (by repeat (first | exact trivial | exact rfl | exact ⟨_, rfl⟩ | refine And.intro ?_ ?_))) rfl ?_ | refine VQ_q (Q_call rfl h3 (by repeat (first | exact trivial | exact rfl | exact ⟨_, rfl⟩ | refine And.intro ?_ ?_))) rfl ?_ | (refine VO_bare rfl rfl rfl rfl ?_; refine VO_q (Q_call rfl h3 (by repeat (first | exact trivial | exact rfl | exact ⟨_, rfl⟩ | refine And.intro ?_ ?_))) rfl ?_) | refine VQ_run rfl rfl rfl rfl (Q_call rfl h3 (by repeat (first | exact trivial | exact rfl | exact ⟨_, rfl⟩ | refine And.intro ?_ ?_))) rfl ?_)
  repeat refine VO_d ?_
  cases r3
  · repeat refine VO_d ?_
    (first | refine VO_nil ?_ | refine VQ_nil ?_)
    refine V_ret ?_
    exact ⟨trivial, ⟨_, rfl, congrArg U.b (deq_false.2 (by intro h; cases h; simp [deq_self] at s3)).symm⟩, trivial⟩
  repeat refine VO_d ?_
  (first | refine VO_nil ?_ | refine VQ_nil ?_)
  refine V_ret ?_
  have e0 : f0 = d0 := by simpa using k0
  have e1 : f1 = d1 := by simpa using k1
  have e2 : f2_0 = d2_0 ∧ f2_1 = d2_1 := by simpa using k2
  exact ⟨trivial, ⟨_, rfl, congrArg U.b (deq_true.2 (by rw [e0, e1, e2.1, e2.2, deq_true.1 s3])).symm⟩, trivial⟩

theorem implEqualEvidence (u : U) : wt (.st 18) u → ∀ v, wt (.st 18) v → PEq 83 u v := by
  refine U.ind (M := fun u => wt (.st 18) u → ∀ v, wt (.st 18) v → PEq 83 u v) (fun u ih h v h2 => ?_) u
  obtain ⟨f0, f1, f2, f3, rfl, p0, p1, p2, p3⟩ := inv_Evidence h
  obtain ⟨d0, d1, d2, d3, rfl, q0, q1, q2, q3⟩ := inv_Evidence h2
  exact implEvidence_step p2 q2 (equalFunc_Evidence (fi := 83) p3.1 q3.1 p3.2 q3.2 (fun a ha b hb => ih a (by have := nn_of_mem ha; simp only [U.nn, U.nns]; omega) (p3.2 a ha) b (q3.2 b hb)))

set_option maxHeartbeats 8000000 in
theorem implArm_step {f0 : List UInt8} {f1 : List U} {f2 : U} {d0 : List UInt8} {d1 : List U} {d2 : U} (g2 : wt (.st 21) f2) (j2 : wt (.st 21) d2) (h1 : SpecP Try.prog 55 [.d (.sl 1 f1), .d (.sl 1 d1)] [.b (deq (.sl 1 f1) (.sl 1 d1))]) (h2 : SpecP Try.prog 56 [.d (f2), .d (d2)] [.b (deq (f2) (d2))]) : PEq 86 (.st [.s f0, .sl 1 f1, f2]) (.st [.s d0, .sl 1 d1, d2]) := by
  obtain ⟨r1, s1⟩ : ∃ r, deq (.sl 1 f1) (.sl 1 d1) = r := ⟨_, rfl⟩
  rw [s1] at h1
  obtain ⟨r2, s2⟩ : ∃ r, deq (f2) (d2) = r := ⟨_, rfl⟩
  rw [s2] at h2
  obtain ⟨f2_0, f2_1, f2_2, f2_3, f2_4, f2_5, f2_6, f2_7, f2_8, rfl, g2_0, g2_1, g2_2, g2_3, g2_4, g2_5, g2_6, g2_7, g2_8⟩ := inv_Core g2
  obtain ⟨f2_4_0, f2_4_1, f2_4_2, rfl, g2_4_0, g2_4_1, g2_4_2⟩ := inv_Type g2_4
  obtain ⟨d2_0, d2_1, d2_2, d2_3, d2_4, d2_5, d2_6, d2_7, d2_8, rfl, j2_0, j2_1, j2_2, j2_3, j2_4, j2_5, j2_6, j2_7, j2_8⟩ := inv_Core j2
  obtain ⟨d2_4_0, d2_4_1, d2_4_2, rfl, j2_4_0, j2_4_1, j2_4_2⟩ := inv_Type j2_4
  refine SpecP_intro Try.func86 rfl (by kernel_rfl) rfl fun A => ?_
  (first | refine V_seq_region ?_ | refine V_seq (V_seq_region ?_) | refine V_seq_draw tmix (by kernel_rfl) ?_ | refine V_seq (V_seq_draw tmix (by kernel_rfl) ?_) | refine V_region ?_ | refine V_draw tmix (by kernel_rfl) ?_)
  repeat refine VO_d ?_
  (first | refine VO_nil ?_ | refine VQ_nil ?_)
  (first | refine V_seq_region ?_ | refine V_seq (V_seq_region ?_) | refine V_seq_draw tmix (by kernel_rfl) ?_ | refine V_seq (V_seq_draw tmix (by kernel_rfl) ?_) | refine V_region ?_ | refine V_draw tmix (by kernel_rfl) ?_)
  repeat refine VO_d ?_
  cases k0 : (f0 == d0)
  · repeat refine VO_d ?_
    (first | refine VO_nil ?_ | refine VQ_nil ?_)
    refine V_ret ?_
    exact ⟨trivial, ⟨_, rfl, congrArg U.b (deq_false.2 (by intro h; cases h; simp [deq_self] at k0)).symm⟩, trivial⟩
  repeat refine VO_d ?_
  (first | refine VO_q (Q_call rfl h1 (by repeat (first | exact trivial | exact rfl | exact ⟨_, rfl⟩ | refine And.intro ?_ ?_))) rfl ?_ | refine VQ_q (Q_call rfl h1 (by repeat (first | exact trivial | exact rfl | exact ⟨_, rfl⟩ | refine And.intro ?_ ?_))) rfl ?_ | (refine VO_bare rfl rfl rfl rfl ?_; refine VO_q (Q_call rfl h1 (by repeat (first | exact trivial | exact rfl | exact ⟨_, rfl⟩ | refine And.intro ?_ ?_))) rfl ?_) | refine VQ_run rfl rfl rfl rfl (Q_call rfl h1 (by repeat (first | exact trivial | exact rfl | exact ⟨_, rfl⟩ | refine And.intro ?_ ?_))) rfl ?_)
  repeat refine VO_d ?_
  cases r1
  · repeat refine VO_d ?_
    (first | refine VO_nil ?_ | refine VQ_nil ?_)
    refine V_ret ?_
    exact ⟨trivial, ⟨_, rfl, congrArg U.b (deq_false.2 (by intro h; cases h; simp [deq_self] at s1)).symm⟩, trivial⟩
  repeat refine VO_d ?_
  (first | refine VO_q (Q_call rfl h2 (by repeat (first | exact trivial | exact rfl | exact ⟨_, rfl⟩ | refine And.intro ?_ ?_))) rfl ?_ | refine VQ_q (Q_call rfl h2 (by repeat (first | exact trivial | exact rfl | exact ⟨_, rfl⟩ | refine And.intro ?_ ?_))) rfl ?_ | (refine VO_bare rfl rfl rfl rfl ?_; refine VO_q (Q_call rfl h2 (by repeat (first | exact trivial | exact rfl | exact ⟨_, rfl⟩ | refine And.intro ?_ ?_))) rfl ?_) | refine VQ_run rfl rfl rfl rfl (Q_call rfl h2 (by repeat (first | exact trivial | exact rfl | exact ⟨_, rfl⟩ | refine And.intro ?_ ?_))) rfl ?_)
  repeat refine VO_d ?_
  cases r2
  · repeat refine VO_d ?_
    (first | refine VO_nil ?_ | refine VQ_nil ?_)
    refine V_ret ?_
    exact ⟨trivial, ⟨_, rfl, congrArg U.b (deq_false.2 (by intro h; cases h; simp [deq_self] at s2)).symm⟩, trivial⟩
  repeat refine VO_d ?_
  (first | refine VO_nil ?_ | refine VQ_nil ?_)
  refine V_ret ?_
  have e0 : f0 = d0 := by simpa using k0
  exact ⟨trivial, ⟨_, rfl, congrArg U.b (deq_true.2 (by rw [e0, deq_true.1 s1, deq_true.1 s2])).symm⟩, trivial⟩

set_option maxHeartbeats 8000000 in
theorem implCore_step {f0 : Int} {f1 : List UInt8} {f2 : List UInt8} {f3 : Int} {f4 : U} {f5 : List U} {f6 : List U} {f7 : List U} {f8 : List U} {d0 : Int} {d1 : List UInt8} {d2 : List UInt8} {d3 : Int} {d4 : U} {d5 : List U} {d6 : List U} {d7 : List U} {d8 : List U} (g4 : wt (.st 1) f4) (j4 : wt (.st 1) d4) (h4 : SpecP Try.prog 34 [.d (f4), .d (d4)] [.b (deq (f4) (d4))]) (h5 : SpecP Try.prog 40 [.d (.sl 3 f5), .d (.sl 3 d5)] [.b (deq (.sl 3 f5) (.sl 3 d5))]) (h6 : SpecP Try.prog 82 [.d (.sl 5 f6), .d (.sl 5 d6), .fn 83 []] [.b (deq (.sl 5 f6) (.sl 5 d6))]) (h7 : SpecP Try.prog 84 [.d (.sl 11 f7), .d (.sl 11 d7), .fn 56 []] [.b (deq (.sl 11 f7) (.sl 11 d7))]) (h8 : SpecP Try.prog 85 [.d (.sl 13 f8), .d (.sl 13 d8), .fn 86 []] [.b (deq (.sl 13 f8) (.sl 13 d8))]) : PEq 56 (.st [.i .i64 f0, .s f1, .s f2, .i .i64 f3, f4, .sl 3 f5, .sl 5 f6, .sl 11 f7, .sl 13 f8]) (.st [.i .i64 d0, .s d1, .s d2, .i .i64 d3, d4, .sl 3 d5, .sl 5 d6, .sl 11 d7, .sl 13 d8]) := by
  obtain ⟨r4, s4⟩ : ∃ r, deq (f4) (d4) = r := ⟨_, rfl⟩
  rw [s4] at h4
  obtain ⟨r5, s5⟩ : ∃ r, deq (.sl 3 f5) (.sl 3 d5) = r := ⟨_, rfl⟩
  rw [s5] at h5
  obtain ⟨r6, s6⟩ : ∃ r, deq (.sl 5 f6) (.sl 5 d6) = r := ⟨_, rfl⟩
  rw [s6] at h6
  obtain ⟨r7, s7⟩ : ∃ r, deq (.sl 11 f7) (.sl 11 d7) = r := ⟨_, rfl⟩
  rw [s7] at h7
  obtain ⟨r8, s8⟩ : ∃ r, deq (.sl 13 f8) (.sl 13 d8) = r := ⟨_, rfl⟩
  rw [s8] at h8
  obtain ⟨f4_0, f4_1, f4_2, rfl, g4_0, g4_1, g4_2⟩ := inv_Type g4
  obtain ⟨d4_0, d4_1, d4_2, rfl, j4_0, j4_1, j4_2⟩ := inv_Type j4
  refine SpecP_intro Try.func56 rfl (by kernel_rfl) rfl fun A => ?_
  (first | refine V_seq_region ?_ | refine V_seq (V_seq_region ?_) | refine V_seq_draw tmix (by kernel_rfl) ?_ | refine V_seq (V_seq_draw tmix (by kernel_rfl) ?_) | refine V_region ?_ | refine V_draw tmix (by kernel_rfl) ?_)
  repeat refine VO_d ?_
  (first | refine VO_nil ?_ | refine VQ_nil ?_)
  (first | refine V_seq_region ?_ | refine V_seq (V_seq_region ?_) | refine V_seq_draw tmix (by kernel_rfl) ?_ | refine V_seq (V_seq_draw tmix (by kernel_rfl) ?_) | refine V_region ?_ | refine V_draw tmix (by kernel_rfl) ?_)
  repeat refine VO_d ?_
  cases k0 : (f0 == d0)
  · repeat refine VO_d ?_
    (first | refine VO_nil ?_ | refine VQ_nil ?_)
    refine V_ret ?_
    exact ⟨trivial, ⟨_, rfl, congrArg U.b (deq_false.2 (by intro h; cases h; simp [deq_self] at k0)).symm⟩, trivial⟩
  repeat refine VO_d ?_
  cases k1 : (f1 == d1)
  · repeat refine VO_d ?_
    (first | refine VO_nil ?_ | refine VQ_nil ?_)
    refine V_ret ?_
    exact ⟨trivial, ⟨_, rfl, congrArg U.b (deq_false.2 (by intro h; cases h; simp [deq_self] at k1)).symm⟩, trivial⟩
  repeat refine VO_d ?_
  cases k2 : (f2 == d2)
  · repeat refine VO_d ?_
    (first | refine VO_nil ?_ | refine VQ_nil ?_)
    refine V_ret ?_
    exact ⟨trivial, ⟨_, rfl, congrArg U.b (deq_false.2 (by intro h; cases h; simp [deq_self] at k2)).symm⟩, trivial⟩
  repeat refine VO_d ?_
  cases k3 : (f3 == d3)
  · repeat refine VO_d ?_
    (first | refine VO_nil ?_ | refine VQ_nil ?_)
    refine V_ret ?_
    exact ⟨trivial, ⟨_, rfl, congrArg U.b (deq_false.2 (by intro h; cases h; simp [deq_self] at k3)).symm⟩, trivial⟩
  repeat refine VO_d ?_
  (first | refine VO_q (Q_call rfl h4 (by repeat (first | exact trivial | exact rfl | exact ⟨_, rfl⟩ | refine And.intro ?_ ?_))) rfl ?_ | refine VQ_q (Q_call rfl h4 (by repeat (first | exact trivial | exact rfl | exact ⟨_, rfl⟩ | refine And.intro ?_ ?_))) rfl ?_ | (refine VO_bare rfl rfl rfl rfl ?_; refine VO_q (Q_call rfl h4 (by repeat (first | exact trivial | exact rfl | exact ⟨_, rfl⟩ | refine And.intro ?_ ?_))) rfl ?_) | refine VQ_run rfl rfl rfl rfl (Q_call rfl h4 (by repeat (first | exact trivial | exact rfl | exact ⟨_, rfl⟩ | refine And.intro ?_ ?_))) rfl ?_)
  repeat refine VO_d ?_
  cases r4
  · repeat refine VO_d ?_
    (first | refine VO_nil ?_ | refine VQ_nil ?_)
    refine V_ret ?_
    exact ⟨trivial, ⟨_, rfl, congrArg U.b (deq_false.2 (by intro h; cases h; simp [deq_self] at s4)).symm⟩, trivial⟩
  repeat refine VO_d ?_
  (first | refine VO_q (Q_call rfl h5 (by repeat (first | exact trivial | exact rfl | exact ⟨_, rfl⟩ | refine And.intro ?_ ?_))) rfl ?_ | refine VQ_q (Q_call rfl h5 (by repeat (first | exact trivial | exact rfl | exact ⟨_, rfl⟩ | refine And.intro ?_ ?_))) rfl ?_ | (refine VO_bare rfl rfl rfl rfl ?_; refine VO_q (Q_call rfl h5 (by repeat (first | exact trivial | exact rfl | exact ⟨_, rfl⟩ | refine And.intro ?_ ?_))) rfl ?_) | refine VQ_run rfl rfl rfl rfl (Q_call rfl h5 (by repeat (first | exact trivial | exact rfl | exact ⟨_, rfl⟩ | refine And.intro ?_ ?_))) rfl ?_)
  repeat refine VO_d ?_
  cases r5
  · repeat refine VO_d ?_
    (first | refine VO_nil ?_ | refine VQ_nil ?_)
    refine V_ret ?_
    exact ⟨trivial, ⟨_, rfl, congrArg U.b (deq_false.2 (by intro h; cases h; simp [deq_self] at s5)).symm⟩, trivial⟩
  repeat refine VO_d ?_
  (first | refine VO_q (Q_call rfl h6 (by repeat (first | exact trivial | exact rfl | exact ⟨_, rfl⟩ | refine And.intro ?_ ?_))) rfl ?_ | refine VQ_q (Q_call rfl h6 (by repeat (first | exact trivial | exact rfl | exact ⟨_, rfl⟩ | refine And.intro ?_ ?_))) rfl ?_ | (refine VO_bare rfl rfl rfl rfl ?_; refine VO_q (Q_call rfl h6 (by repeat (first | exact trivial | exact rfl | exact ⟨_, rfl⟩ | refine And.intro ?_ ?_))) rfl ?_) | refine VQ_run rfl rfl rfl rfl (Q_call rfl h6 (by repeat (first | exact trivial | exact rfl | exact ⟨_, rfl⟩ | refine And.intro ?_ ?_))) rfl ?_)
  repeat refine VO_d ?_
  cases r6
  · repeat refine VO_d ?_
    (first | refine VO_nil ?_ | refine VQ_nil ?_)
    refine V_ret ?_
    exact ⟨trivial, ⟨_, rfl, congrArg U.b (deq_false.2 (by intro h; cases h; simp [deq_self] at s6)).symm⟩, trivial⟩
  repeat refine VO_d ?_
  (first | refine VO_q (Q_call rfl h7 (by repeat (first | exact trivial | exact rfl | exact ⟨_, rfl⟩ | refine And.intro ?_ ?_))) rfl ?_ | refine VQ_q (Q_call rfl h7 (by repeat (first | exact trivial | exact rfl | exact ⟨_, rfl⟩ | refine And.intro ?_ ?_))) rfl ?_ | (refine VO_bare rfl rfl rfl rfl ?_; refine VO_q (Q_call rfl h7 (by repeat (first | exact trivial | exact rfl | exact ⟨_, rfl⟩ | refine And.intro ?_ ?_))) rfl ?_) | refine VQ_run rfl rfl rfl rfl (Q_call rfl h7 (by repeat (first | exact trivial | exact rfl | exact ⟨_, rfl⟩ | refine And.intro ?_ ?_))) rfl ?_)
  repeat refine VO_d ?_
  cases r7
  · repeat refine VO_d ?_
    (first | refine VO_nil ?_ | refine VQ_nil ?_)
    refine V_ret ?_
    exact ⟨trivial, ⟨_, rfl, congrArg U.b (deq_false.2 (by intro h; cases h; simp [deq_self] at s7)).symm⟩, trivial⟩
  repeat refine VO_d ?_
  (first | refine VO_q (Q_call rfl h8 (by repeat (first | exact trivial | exact rfl | exact ⟨_, rfl⟩ | refine And.intro ?_ ?_))) rfl ?_ | refine VQ_q (Q_call rfl h8 (by repeat (first | exact trivial | exact rfl | exact ⟨_, rfl⟩ | refine And.intro ?_ ?_))) rfl ?_ | (refine VO_bare rfl rfl rfl rfl ?_; refine VO_q (Q_call rfl h8 (by repeat (first | exact trivial | exact rfl | exact ⟨_, rfl⟩ | refine And.intro ?_ ?_))) rfl ?_) | refine VQ_run rfl rfl rfl rfl (Q_call rfl h8 (by repeat (first | exact trivial | exact rfl | exact ⟨_, rfl⟩ | refine And.intro ?_ ?_))) rfl ?_)
  repeat refine VO_d ?_
  cases r8
  · repeat refine VO_d ?_
    (first | refine VO_nil ?_ | refine VQ_nil ?_)
    refine V_ret ?_
    exact ⟨trivial, ⟨_, rfl, congrArg U.b (deq_false.2 (by intro h; cases h; simp [deq_self] at s8)).symm⟩, trivial⟩
  repeat refine VO_d ?_
  (first | refine VO_nil ?_ | refine VQ_nil ?_)
  refine V_ret ?_
  have e0 : f0 = d0 := by simpa using k0
  have e1 : f1 = d1 := by simpa using k1
  have e2 : f2 = d2 := by simpa using k2
  have e3 : f3 = d3 := by simpa using k3
  exact ⟨trivial, ⟨_, rfl, congrArg U.b (deq_true.2 (by rw [e0, e1, e2, e3, deq_true.1 s4, deq_true.1 s5, deq_true.1 s6, deq_true.1 s7, deq_true.1 s8])).symm⟩, trivial⟩

theorem implEqualCore (u : U) : wt (.st 21) u → ∀ v, wt (.st 21) v → PEq 56 u v := by
  refine U.ind (M := fun u => wt (.st 21) u → ∀ v, wt (.st 21) v → PEq 56 u v) (fun u ih h v h2 => ?_) u
  obtain ⟨f0, f1, f2, f3, f4, f5, f6, f7, f8, rfl, p0, p1, p2, p3, p4, p5, p6, p7, p8⟩ := inv_Core h
  obtain ⟨d0, d1, d2, d3, d4, d5, d6, d7, d8, rfl, q0, q1, q2, q3, q4, q5, q6, q7, q8⟩ := inv_Core h2
  exact implCore_step p4 q4 (implEqualType f4 p4 d4 q4) (implTypes p5 q5) (equalFunc_Evidence (fi := 83) p6.1 q6.1 p6.2 q6.2 (fun a ha b hb => implEqualEvidence a (p6.2 a ha) b (q6.2 b hb))) (equalFunc_Core (fi := 56) p7.1 q7.1 p7.2 q7.2 (fun a ha b hb => ih a (by have := nn_of_mem ha; simp only [U.nn, U.nns]; omega) (p7.2 a ha) b (q7.2 b hb))) (equalFunc_CoreArm (fi := 86) p8.1 q8.1 p8.2 q8.2 (fun a ha b hb => by obtain ⟨x0, x1, x2, rfl, y0, y1, y2⟩ := inv_CoreArm (p8.2 a ha); obtain ⟨w0, w1, w2, rfl, v0, v1, v2⟩ := inv_CoreArm (q8.2 b hb); exact implArm_step y2 v2 (slicesEqual_string y1 v1) (ih x2 (by have := nn_of_mem ha; simp only [U.nn, U.nns] at this ⊢; omega) y2 w2 v2)))

theorem specTypes_step {us vs : List U} (hb1 : us.length ≤ big) (hb2 : vs.length ≤ big) (hz : ∀ a ∈ us, a.isSt = true ∧ a.sz = 3) (hz2 : ∀ a ∈ vs, a.isSt = true ∧ a.sz = 3) (ih : ∀ a ∈ us, ∀ b ∈ vs, PEq 29 a b) : PEq 37 (.sl 3 us) (.sl 3 vs) := by
  rw [big_eq] at hb1 hb2
  refine SpecP_intro Try.func37 rfl (by kernel_rfl) rfl fun A => ?_
  (first | refine V_seq_region ?_ | refine V_seq (V_seq_region ?_) | refine V_seq_draw tmix (by kernel_rfl) ?_ | refine V_seq (V_seq_draw tmix (by kernel_rfl) ?_) | refine V_region ?_ | refine V_draw tmix (by kernel_rfl) ?_)
  repeat refine VO_d ?_
  (first | refine VO_nil ?_ | refine VQ_nil ?_)
  (first | refine V_seq_region ?_ | refine V_seq (V_seq_region ?_) | refine V_seq_draw tmix (by kernel_rfl) ?_ | refine V_seq (V_seq_draw tmix (by kernel_rfl) ?_) | refine V_region ?_ | refine V_draw tmix (by kernel_rfl) ?_)
  repeat refine VO_d ?_
  (first | refine VO_nil ?_ | refine VQ_nil ?_)
  refine V_cond rfl (fun hc => ?_) (fun hc => ?_)
  · (first | refine V_seq_region ?_ | refine V_seq (V_seq_region ?_) | refine V_seq_draw tmix (by kernel_rfl) ?_ | refine V_seq (V_seq_draw tmix (by kernel_rfl) ?_) | refine V_region ?_ | refine V_draw tmix (by kernel_rfl) ?_)
    repeat refine VO_d ?_
    (first | refine VO_nil ?_ | refine VQ_nil ?_)
    refine V_ret ?_
    exact ⟨trivial, ⟨_, rfl, congrArg U.b (deq_false.2 (by intro h; injection h with _ h; subst h; simp at hc)).symm⟩, trivial⟩
  refine V_skip ?_
  have hll : us.length = vs.length := by simp at hc; omega
  (first | refine V_seq_region ?_ | refine V_seq (V_seq_region ?_) | refine V_seq_draw tmix (by kernel_rfl) ?_ | refine V_seq (V_seq_draw tmix (by kernel_rfl) ?_) | refine V_region ?_ | refine V_draw tmix (by kernel_rfl) ?_)
  repeat refine VO_d ?_
  (first | refine VO_nil ?_ | refine VQ_nil ?_)
  refine V_block ?_
  refine V_loop (α := Nat)
    (fun k => ⟨[(0, .d (.sl 3 us)), (1, .d (.sl 3 vs)), (5, .d (.i .i64 k))], [], Try.f37.ntmps⟩)
    (fun k => k ≤ us.length ∧ ∀ j, j < k → us[j]? = vs[j]?)
    (fun k => us.length - k) 0 ⟨rfl, ⟨⟨rfl, rfl⟩, ⟨rfl, rfl⟩, ⟨rfl, rfl⟩, trivial⟩, ⟨[], rfl⟩, rfl⟩ ⟨by simp, by simp⟩ ?_
  rintro k ⟨hk, hsame⟩
  (first | refine V_seq_region ?_ | refine V_seq (V_seq_region ?_) | refine V_seq_draw tmix (by kernel_rfl) ?_ | refine V_seq (V_seq_draw tmix (by kernel_rfl) ?_) | refine V_region ?_ | refine V_draw tmix (by kernel_rfl) ?_)
  repeat refine VO_d ?_
  (first | refine VO_nil ?_ | refine VQ_nil ?_)
  refine V_cond rfl (fun hc2 => ?_) (fun hc2 => ?_)
  · refine V_skip ?_
    simp only [decide_eq_true_eq] at hc2
    have hkl : k < us.length := by omega
    have hkv : k < vs.length := by omega
    have hget : us[k]? = some us[k] := List.getElem?_eq_getElem hkl
    have hgev : vs[k]? = some vs[k] := List.getElem?_eq_getElem hkv
    have hmem : us[k] ∈ us := List.getElem_mem hkl
    have hmev : vs[k] ∈ vs := List.getElem_mem hkv
    obtain ⟨hst, hsz⟩ := hz _ hmem
    obtain ⟨hst2, hsz2⟩ := hz2 _ hmev
    refine V_seq (V_block ?_)
    (first | refine V_seq_region ?_ | refine V_seq (V_seq_region ?_) | refine V_seq_draw tmix (by kernel_rfl) ?_ | refine V_seq (V_seq_draw tmix (by kernel_rfl) ?_) | refine V_region ?_ | refine V_draw tmix (by kernel_rfl) ?_)
    repeat (first | refine VO_d ?_ | refine VQ_d ?_)
    (first | refine VO_q (Q_index rfl rfl TE.h TI.h (by omega) hget) rfl ?_ | refine VQ_q (Q_index rfl rfl TE.h TI.h (by omega) hget) rfl ?_ | (refine VO_bare rfl rfl rfl rfl ?_; refine VO_q (Q_index rfl rfl TE.h TI.h (by omega) hget) rfl ?_) | refine VQ_run rfl rfl rfl rfl (Q_index rfl rfl TE.h TI.h (by omega) hget) rfl ?_)
    (first | refine VO_q (Q_load rfl TI.h hst hsz) rfl ?_ | refine VQ_q (Q_load rfl TI.h hst hsz) rfl ?_ | (refine VO_bare rfl rfl rfl rfl ?_; refine VO_q (Q_load rfl TI.h hst hsz) rfl ?_) | refine VQ_run rfl rfl rfl rfl (Q_load rfl TI.h hst hsz) rfl ?_)
    repeat (first | refine VO_d ?_ | refine VQ_d ?_)
    (first | refine VO_q (Q_index rfl rfl TE.h TI.h (by omega) hgev) rfl ?_ | refine VQ_q (Q_index rfl rfl TE.h TI.h (by omega) hgev) rfl ?_ | (refine VO_bare rfl rfl rfl rfl ?_; refine VO_q (Q_index rfl rfl TE.h TI.h (by omega) hgev) rfl ?_) | refine VQ_run rfl rfl rfl rfl (Q_index rfl rfl TE.h TI.h (by omega) hgev) rfl ?_)
    (first | refine VO_q (Q_load rfl TI.h hst2 hsz2) rfl ?_ | refine VQ_q (Q_load rfl TI.h hst2 hsz2) rfl ?_ | (refine VO_bare rfl rfl rfl rfl ?_; refine VO_q (Q_load rfl TI.h hst2 hsz2) rfl ?_) | refine VQ_run rfl rfl rfl rfl (Q_load rfl TI.h hst2 hsz2) rfl ?_)
    (first | refine VO_q (Q_call rfl (ih _ hmem _ hmev) (by repeat (first | exact trivial | exact rfl | exact ⟨_, rfl⟩ | refine And.intro ?_ ?_))) rfl ?_ | refine VQ_q (Q_call rfl (ih _ hmem _ hmev) (by repeat (first | exact trivial | exact rfl | exact ⟨_, rfl⟩ | refine And.intro ?_ ?_))) rfl ?_ | (refine VO_bare rfl rfl rfl rfl ?_; refine VO_q (Q_call rfl (ih _ hmem _ hmev) (by repeat (first | exact trivial | exact rfl | exact ⟨_, rfl⟩ | refine And.intro ?_ ?_))) rfl ?_) | refine VQ_run rfl rfl rfl rfl (Q_call rfl (ih _ hmem _ hmev) (by repeat (first | exact trivial | exact rfl | exact ⟨_, rfl⟩ | refine And.intro ?_ ?_))) rfl ?_)
    repeat (first | refine VO_d ?_ | refine VQ_d ?_)
    (first | refine VO_nil ?_ | refine VQ_nil ?_)
    refine V_cond rfl (fun hc3 => ?_) (fun hc3 => ?_)
    · (first | refine V_seq_region ?_ | refine V_seq (V_seq_region ?_) | refine V_seq_draw tmix (by kernel_rfl) ?_ | refine V_seq (V_seq_draw tmix (by kernel_rfl) ?_) | refine V_region ?_ | refine V_draw tmix (by kernel_rfl) ?_)
      repeat refine VO_d ?_
      (first | refine VO_nil ?_ | refine VQ_nil ?_)
      refine V_ret ?_
      exact ⟨trivial, ⟨_, rfl, congrArg U.b (deq_false.2 (by intro h; injection h with _ h; subst h; rw [deq_self] at hc3; cases hc3)).symm⟩, trivial⟩
    refine V_skip ?_
    have heq : us[k] = vs[k] := deq_true.1 (by simpa using hc3)
    (first | refine V_seq_region ?_ | refine V_seq (V_seq_region ?_) | refine V_seq_draw tmix (by kernel_rfl) ?_ | refine V_seq (V_seq_draw tmix (by kernel_rfl) ?_) | refine V_region ?_ | refine V_draw tmix (by kernel_rfl) ?_)
    repeat refine VO_d ?_
    (first | refine VO_nil ?_ | refine VQ_nil ?_)
    refine ⟨k + 1, ⟨by omega, fun j hj => ?_⟩, by omega, ⟨rfl, ⟨⟨rfl, rfl⟩, ⟨rfl, rfl⟩, ⟨rfl, rfl⟩, trivial⟩, ⟨[], rfl⟩, rfl⟩⟩
    by_cases hjk : j = k
    · subst hjk; rw [hget, hgev, heq]
    · exact hsame j (by omega)
  · refine V_exit ?_
    simp only [decide_eq_false_iff_not] at hc2
    have hkl : k = us.length := by omega
    subst hkl
    have hall : us = vs := by
      apply List.ext_getElem?
      intro j
      by_cases hj : j < us.length
      · exact hsame j hj
      · rw [List.getElem?_eq_none (by omega), List.getElem?_eq_none (by omega)]
    show V _ _ _ _ _
    (first | refine V_seq_region ?_ | refine V_seq (V_seq_region ?_) | refine V_seq_draw tmix (by kernel_rfl) ?_ | refine V_seq (V_seq_draw tmix (by kernel_rfl) ?_) | refine V_region ?_ | refine V_draw tmix (by kernel_rfl) ?_)
    repeat refine VO_d ?_
    (first | refine VO_nil ?_ | refine VQ_nil ?_)
    refine V_ret ?_
    exact ⟨trivial, ⟨_, rfl, congrArg U.b (deq_true.2 (by rw [hall])).symm⟩, trivial⟩

set_option maxHeartbeats 8000000 in
theorem specType_step {f0 : Int} {f1 : List UInt8} {f2 : List U} {d0 : Int} {d1 : List UInt8} {d2 : List U} (h2 : SpecP Try.prog 37 [.d (.sl 3 f2), .d (.sl 3 d2)] [.b (deq (.sl 3 f2) (.sl 3 d2))]) : PEq 29 (.st [.i .i64 f0, .s f1, .sl 3 f2]) (.st [.i .i64 d0, .s d1, .sl 3 d2]) := by
  obtain ⟨r2, s2⟩ : ∃ r, deq (.sl 3 f2) (.sl 3 d2) = r := ⟨_, rfl⟩
  rw [s2] at h2
  refine SpecP_intro Try.func29 rfl (by kernel_rfl) rfl fun A => ?_
  (first | refine V_seq_region ?_ | refine V_seq (V_seq_region ?_) | refine V_seq_draw tmix (by kernel_rfl) ?_ | refine V_seq (V_seq_draw tmix (by kernel_rfl) ?_) | refine V_region ?_ | refine V_draw tmix (by kernel_rfl) ?_)
  repeat refine VO_d ?_
  (first | refine VO_nil ?_ | refine VQ_nil ?_)
  (first | refine V_seq_region ?_ | refine V_seq (V_seq_region ?_) | refine V_seq_draw tmix (by kernel_rfl) ?_ | refine V_seq (V_seq_draw tmix (by kernel_rfl) ?_) | refine V_region ?_ | refine V_draw tmix (by kernel_rfl) ?_)
  repeat refine VO_d ?_
  cases k0 : (f0 == d0)
  · repeat refine VO_d ?_
    (first | refine VO_nil ?_ | refine VQ_nil ?_)
    refine V_ret ?_
    exact ⟨trivial, ⟨_, rfl, congrArg U.b (deq_false.2 (by intro h; cases h; simp [deq_self] at k0)).symm⟩, trivial⟩
  repeat refine VO_d ?_
  cases k1 : (f1 == d1)
  · repeat refine VO_d ?_
    (first | refine VO_nil ?_ | refine VQ_nil ?_)
    refine V_ret ?_
    exact ⟨trivial, ⟨_, rfl, congrArg U.b (deq_false.2 (by intro h; cases h; simp [deq_self] at k1)).symm⟩, trivial⟩
  repeat refine VO_d ?_
  (first | refine VO_q (Q_call rfl h2 (by repeat (first | exact trivial | exact rfl | exact ⟨_, rfl⟩ | refine And.intro ?_ ?_))) rfl ?_ | refine VQ_q (Q_call rfl h2 (by repeat (first | exact trivial | exact rfl | exact ⟨_, rfl⟩ | refine And.intro ?_ ?_))) rfl ?_ | (refine VO_bare rfl rfl rfl rfl ?_; refine VO_q (Q_call rfl h2 (by repeat (first | exact trivial | exact rfl | exact ⟨_, rfl⟩ | refine And.intro ?_ ?_))) rfl ?_) | refine VQ_run rfl rfl rfl rfl (Q_call rfl h2 (by repeat (first | exact trivial | exact rfl | exact ⟨_, rfl⟩ | refine And.intro ?_ ?_))) rfl ?_)
  repeat refine VO_d ?_
  cases r2
  · repeat refine VO_d ?_
    (first | refine VO_nil ?_ | refine VQ_nil ?_)
    refine V_ret ?_
    exact ⟨trivial, ⟨_, rfl, congrArg U.b (deq_false.2 (by intro h; cases h; simp [deq_self] at s2)).symm⟩, trivial⟩
  repeat refine VO_d ?_
  (first | refine VO_nil ?_ | refine VQ_nil ?_)
  refine V_ret ?_
  have e0 : f0 = d0 := by simpa using k0
  have e1 : f1 = d1 := by simpa using k1
  exact ⟨trivial, ⟨_, rfl, congrArg U.b (deq_true.2 (by rw [e0, e1, deq_true.1 s2])).symm⟩, trivial⟩

theorem specEqualType (u : U) : wt (.st 1) u → ∀ v, wt (.st 1) v → PEq 29 u v := by
  refine U.ind (M := fun u => wt (.st 1) u → ∀ v, wt (.st 1) v → PEq 29 u v) (fun u ih h v h2 => ?_) u
  obtain ⟨f0, f1, f2, rfl, p0, p1, p2⟩ := inv_Type h
  obtain ⟨d0, d1, d2, rfl, q0, q1, q2⟩ := inv_Type h2
  exact specType_step (specTypes_step p2.1 q2.1 (fun a ha => ⟨wt_isSt (p2.2 a ha), by rw [wt_sz a _ (p2.2 a ha)]; rfl⟩) (fun a ha => ⟨wt_isSt (q2.2 a ha), by rw [wt_sz a _ (q2.2 a ha)]; rfl⟩) (fun a ha b hb => ih a (by have := nn_of_mem ha; simp only [U.nn, U.nns]; omega) (p2.2 a ha) b (q2.2 b hb)))

theorem specEvidences_step {us vs : List U} (hb1 : us.length ≤ big) (hb2 : vs.length ≤ big) (hz : ∀ a ∈ us, a.isSt = true ∧ a.sz = 5) (hz2 : ∀ a ∈ vs, a.isSt = true ∧ a.sz = 5) (ih : ∀ a ∈ us, ∀ b ∈ vs, PEq 95 a b) : PEq 68 (.sl 5 us) (.sl 5 vs) := by
  rw [big_eq] at hb1 hb2
  refine SpecP_intro Try.func68 rfl (by kernel_rfl) rfl fun A => ?_
  (first | refine V_seq_region ?_ | refine V_seq (V_seq_region ?_) | refine V_seq_draw tmix (by kernel_rfl) ?_ | refine V_seq (V_seq_draw tmix (by kernel_rfl) ?_) | refine V_region ?_ | refine V_draw tmix (by kernel_rfl) ?_)
  repeat refine VO_d ?_
  (first | refine VO_nil ?_ | refine VQ_nil ?_)
  (first | refine V_seq_region ?_ | refine V_seq (V_seq_region ?_) | refine V_seq_draw tmix (by kernel_rfl) ?_ | refine V_seq (V_seq_draw tmix (by kernel_rfl) ?_) | refine V_region ?_ | refine V_draw tmix (by kernel_rfl) ?_)
  repeat refine VO_d ?_
  (first | refine VO_nil ?_ | refine VQ_nil ?_)
  refine V_cond rfl (fun hc => ?_) (fun hc => ?_)
  · (first | refine V_seq_region ?_ | refine V_seq (V_seq_region ?_) | refine V_seq_draw tmix (by kernel_rfl) ?_ | refine V_seq (V_seq_draw tmix (by kernel_rfl) ?_) | refine V_region ?_ | refine V_draw tmix (by kernel_rfl) ?_)
    repeat refine VO_d ?_
    (first | refine VO_nil ?_ | refine VQ_nil ?_)
    refine V_ret ?_
    exact ⟨trivial, ⟨_, rfl, congrArg U.b (deq_false.2 (by intro h; injection h with _ h; subst h; simp at hc)).symm⟩, trivial⟩
  refine V_skip ?_
  have hll : us.length = vs.length := by simp at hc; omega
  (first | refine V_seq_region ?_ | refine V_seq (V_seq_region ?_) | refine V_seq_draw tmix (by kernel_rfl) ?_ | refine V_seq (V_seq_draw tmix (by kernel_rfl) ?_) | refine V_region ?_ | refine V_draw tmix (by kernel_rfl) ?_)
  repeat refine VO_d ?_
  (first | refine VO_nil ?_ | refine VQ_nil ?_)
  refine V_block ?_
  refine V_loop (α := Nat)
    (fun k => ⟨[(0, .d (.sl 5 us)), (1, .d (.sl 5 vs)), (5, .d (.i .i64 k))], [], Try.f68.ntmps⟩)
    (fun k => k ≤ us.length ∧ ∀ j, j < k → us[j]? = vs[j]?)
    (fun k => us.length - k) 0 ⟨rfl, ⟨⟨rfl, rfl⟩, ⟨rfl, rfl⟩, ⟨rfl, rfl⟩, trivial⟩, ⟨[], rfl⟩, rfl⟩ ⟨by simp, by simp⟩ ?_
  rintro k ⟨hk, hsame⟩
  (first | refine V_seq_region ?_ | refine V_seq (V_seq_region ?_) | refine V_seq_draw tmix (by kernel_rfl) ?_ | refine V_seq (V_seq_draw tmix (by kernel_rfl) ?_) | refine V_region ?_ | refine V_draw tmix (by kernel_rfl) ?_)
  repeat refine VO_d ?_
  (first | refine VO_nil ?_ | refine VQ_nil ?_)
  refine V_cond rfl (fun hc2 => ?_) (fun hc2 => ?_)
  · refine V_skip ?_
    simp only [decide_eq_true_eq] at hc2
    have hkl : k < us.length := by omega
    have hkv : k < vs.length := by omega
    have hget : us[k]? = some us[k] := List.getElem?_eq_getElem hkl
    have hgev : vs[k]? = some vs[k] := List.getElem?_eq_getElem hkv
    have hmem : us[k] ∈ us := List.getElem_mem hkl
    have hmev : vs[k] ∈ vs := List.getElem_mem hkv
    obtain ⟨hst, hsz⟩ := hz _ hmem
    obtain ⟨hst2, hsz2⟩ := hz2 _ hmev
    refine V_seq (V_block ?_)
    (first | refine V_seq_region ?_ | refine V_seq (V_seq_region ?_) | refine V_seq_draw tmix (by kernel_rfl) ?_ | refine V_seq (V_seq_draw tmix (by kernel_rfl) ?_) | refine V_region ?_ | refine V_draw tmix (by kernel_rfl) ?_)
    repeat (first | refine VO_d ?_ | refine VQ_d ?_)
    (first | refine VO_q (Q_index rfl rfl TE.h TI.h (by omega) hget) rfl ?_ | refine VQ_q (Q_index rfl rfl TE.h TI.h (by omega) hget) rfl ?_ | (refine VO_bare rfl rfl rfl rfl ?_; refine VO_q (Q_index rfl rfl TE.h TI.h (by omega) hget) rfl ?_) | refine VQ_run rfl rfl rfl rfl (Q_index rfl rfl TE.h TI.h (by omega) hget) rfl ?_)
    (first | refine VO_q (Q_load rfl TI.h hst hsz) rfl ?_ | refine VQ_q (Q_load rfl TI.h hst hsz) rfl ?_ | (refine VO_bare rfl rfl rfl rfl ?_; refine VO_q (Q_load rfl TI.h hst hsz) rfl ?_) | refine VQ_run rfl rfl rfl rfl (Q_load rfl TI.h hst hsz) rfl ?_)
    repeat (first | refine VO_d ?_ | refine VQ_d ?_)
    (first | refine VO_q (Q_index rfl rfl TE.h TI.h (by omega) hgev) rfl ?_ | refine VQ_q (Q_index rfl rfl TE.h TI.h (by omega) hgev) rfl ?_ | (refine VO_bare rfl rfl rfl rfl ?_; refine VO_q (Q_index rfl rfl TE.h TI.h (by omega) hgev) rfl ?_) | refine VQ_run rfl rfl rfl rfl (Q_index rfl rfl TE.h TI.h (by omega) hgev) rfl ?_)
    (first | refine VO_q (Q_load rfl TI.h hst2 hsz2) rfl ?_ | refine VQ_q (Q_load rfl TI.h hst2 hsz2) rfl ?_ | (refine VO_bare rfl rfl rfl rfl ?_; refine VO_q (Q_load rfl TI.h hst2 hsz2) rfl ?_) | refine VQ_run rfl rfl rfl rfl (Q_load rfl TI.h hst2 hsz2) rfl ?_)
    (first | refine VO_q (Q_call rfl (ih _ hmem _ hmev) (by repeat (first | exact trivial | exact rfl | exact ⟨_, rfl⟩ | refine And.intro ?_ ?_))) rfl ?_ | refine VQ_q (Q_call rfl (ih _ hmem _ hmev) (by repeat (first | exact trivial | exact rfl | exact ⟨_, rfl⟩ | refine And.intro ?_ ?_))) rfl ?_ | (refine VO_bare rfl rfl rfl rfl ?_; refine VO_q (Q_call rfl (ih _ hmem _ hmev) (by repeat (first | exact trivial | exact rfl | exact ⟨_, rfl⟩ | refine And.intro ?_ ?_))) rfl ?_) | refine VQ_run rfl rfl rfl rfl (Q_call rfl (ih _ hmem _ hmev) (by repeat (first | exact trivial | exact rfl | exact ⟨_, rfl⟩ | refine And.intro ?_ ?_))) rfl ?_)
    repeat (first | refine VO_d ?_ | refine VQ_d ?_)
    (first | refine VO_nil ?_ | refine VQ_nil ?_)
    refine V_cond rfl (fun hc3 => ?_) (fun hc3 => ?_)
    · (first | refine V_seq_region ?_ | refine V_seq (V_seq_region ?_) | refine V_seq_draw tmix (by kernel_rfl) ?_ | refine V_seq (V_seq_draw tmix (by kernel_rfl) ?_) | refine V_region ?_ | refine V_draw tmix (by kernel_rfl) ?_)
      repeat refine VO_d ?_
      (first | refine VO_nil ?_ | refine VQ_nil ?_)
      refine V_ret ?_
      exact ⟨trivial, ⟨_, rfl, congrArg U.b (deq_false.2 (by intro h; injection h with _ h; subst h; rw [deq_self] at hc3; cases hc3)).symm⟩, trivial⟩
    refine V_skip ?_
    have heq : us[k] = vs[k] := deq_true.1 (by simpa using hc3)
    (first | refine V_seq_region ?_ | refine V_seq (V_seq_region ?_) | refine V_seq_draw tmix (by kernel_rfl) ?_ | refine V_seq (V_seq_draw tmix (by kernel_rfl) ?_) | refine V_region ?_ | refine V_draw tmix (by kernel_rfl) ?_)
    repeat refine VO_d ?_
    (first | refine VO_nil ?_ | refine VQ_nil ?_)
    refine ⟨k + 1, ⟨by omega, fun j hj => ?_⟩, by omega, ⟨rfl, ⟨⟨rfl, rfl⟩, ⟨rfl, rfl⟩, ⟨rfl, rfl⟩, trivial⟩, ⟨[], rfl⟩, rfl⟩⟩
    by_cases hjk : j = k
    · subst hjk; rw [hget, hgev, heq]
    · exact hsame j (by omega)
  · refine V_exit ?_
    simp only [decide_eq_false_iff_not] at hc2
    have hkl : k = us.length := by omega
    subst hkl
    have hall : us = vs := by
      apply List.ext_getElem?
      intro j
      by_cases hj : j < us.length
      · exact hsame j hj
      · rw [List.getElem?_eq_none (by omega), List.getElem?_eq_none (by omega)]
    show V _ _ _ _ _
    (first | refine V_seq_region ?_ | refine V_seq (V_seq_region ?_) | refine V_seq_draw tmix (by kernel_rfl) ?_ | refine V_seq (V_seq_draw tmix (by kernel_rfl) ?_) | refine V_region ?_ | refine V_draw tmix (by kernel_rfl) ?_)
    repeat refine VO_d ?_
    (first | refine VO_nil ?_ | refine VQ_nil ?_)
    refine V_ret ?_
    exact ⟨trivial, ⟨_, rfl, congrArg U.b (deq_true.2 (by rw [hall])).symm⟩, trivial⟩

set_option maxHeartbeats 8000000 in
theorem specEvidence_step {f0 : Int} {f1 : Int} {f2 : U} {f3 : List U} {d0 : Int} {d1 : Int} {d2 : U} {d3 : List U} (g2 : wt (.st 16) f2) (j2 : wt (.st 16) d2) (h3 : SpecP Try.prog 68 [.d (.sl 5 f3), .d (.sl 5 d3)] [.b (deq (.sl 5 f3) (.sl 5 d3))]) : PEq 95 (.st [.i .i64 f0, .i .i64 f1, f2, .sl 5 f3]) (.st [.i .i64 d0, .i .i64 d1, d2, .sl 5 d3]) := by
  obtain ⟨r3, s3⟩ : ∃ r, deq (.sl 5 f3) (.sl 5 d3) = r := ⟨_, rfl⟩
  rw [s3] at h3
  obtain ⟨f2_0, f2_1, rfl, g2_0, g2_1⟩ := inv_InstanceRef g2
  obtain ⟨d2_0, d2_1, rfl, j2_0, j2_1⟩ := inv_InstanceRef j2
  refine SpecP_intro Try.func95 rfl (by kernel_rfl) rfl fun A => ?_
  (first | refine V_seq_region ?_ | refine V_seq (V_seq_region ?_) | refine V_seq_draw tmix (by kernel_rfl) ?_ | refine V_seq (V_seq_draw tmix (by kernel_rfl) ?_) | refine V_region ?_ | refine V_draw tmix (by kernel_rfl) ?_)
  repeat refine VO_d ?_
  (first | refine VO_nil ?_ | refine VQ_nil ?_)
  (first | refine V_seq_region ?_ | refine V_seq (V_seq_region ?_) | refine V_seq_draw tmix (by kernel_rfl) ?_ | refine V_seq (V_seq_draw tmix (by kernel_rfl) ?_) | refine V_region ?_ | refine V_draw tmix (by kernel_rfl) ?_)
  repeat refine VO_d ?_
  cases k0 : (f0 == d0)
  · repeat refine VO_d ?_
    (first | refine VO_nil ?_ | refine VQ_nil ?_)
    refine V_ret ?_
    exact ⟨trivial, ⟨_, rfl, congrArg U.b (deq_false.2 (by intro h; cases h; simp [deq_self] at k0)).symm⟩, trivial⟩
  repeat refine VO_d ?_
  cases k1 : (f1 == d1)
  · repeat refine VO_d ?_
    (first | refine VO_nil ?_ | refine VQ_nil ?_)
    refine V_ret ?_
    exact ⟨trivial, ⟨_, rfl, congrArg U.b (deq_false.2 (by intro h; cases h; simp [deq_self] at k1)).symm⟩, trivial⟩
  repeat refine VO_d ?_
  cases k2 : (f2_0 == d2_0 && f2_1 == d2_1)
  · repeat refine VO_d ?_
    (first | refine VO_nil ?_ | refine VQ_nil ?_)
    refine V_ret ?_
    exact ⟨trivial, ⟨_, rfl, congrArg U.b (deq_false.2 (by intro h; cases h; simp [deq_self] at k2)).symm⟩, trivial⟩
  repeat refine VO_d ?_
  (first | refine VO_q (Q_call rfl h3 (by repeat (first | exact trivial | exact rfl | exact ⟨_, rfl⟩ | refine And.intro ?_ ?_))) rfl ?_ | refine VQ_q (Q_call rfl h3 (by repeat (first | exact trivial | exact rfl | exact ⟨_, rfl⟩ | refine And.intro ?_ ?_))) rfl ?_ | (refine VO_bare rfl rfl rfl rfl ?_; refine VO_q (Q_call rfl h3 (by repeat (first | exact trivial | exact rfl | exact ⟨_, rfl⟩ | refine And.intro ?_ ?_))) rfl ?_) | refine VQ_run rfl rfl rfl rfl (Q_call rfl h3 (by repeat (first | exact trivial | exact rfl | exact ⟨_, rfl⟩ | refine And.intro ?_ ?_))) rfl ?_)
  repeat refine VO_d ?_
  cases r3
  · repeat refine VO_d ?_
    (first | refine VO_nil ?_ | refine VQ_nil ?_)
    refine V_ret ?_
    exact ⟨trivial, ⟨_, rfl, congrArg U.b (deq_false.2 (by intro h; cases h; simp [deq_self] at s3)).symm⟩, trivial⟩
  repeat refine VO_d ?_
  (first | refine VO_nil ?_ | refine VQ_nil ?_)
  refine V_ret ?_
  have e0 : f0 = d0 := by simpa using k0
  have e1 : f1 = d1 := by simpa using k1
  have e2 : f2_0 = d2_0 ∧ f2_1 = d2_1 := by simpa using k2
  exact ⟨trivial, ⟨_, rfl, congrArg U.b (deq_true.2 (by rw [e0, e1, e2.1, e2.2, deq_true.1 s3])).symm⟩, trivial⟩

theorem specEqualEvidence (u : U) : wt (.st 18) u → ∀ v, wt (.st 18) v → PEq 95 u v := by
  refine U.ind (M := fun u => wt (.st 18) u → ∀ v, wt (.st 18) v → PEq 95 u v) (fun u ih h v h2 => ?_) u
  obtain ⟨f0, f1, f2, f3, rfl, p0, p1, p2, p3⟩ := inv_Evidence h
  obtain ⟨d0, d1, d2, d3, rfl, q0, q1, q2, q3⟩ := inv_Evidence h2
  exact specEvidence_step p2 q2 (specEvidences_step p3.1 q3.1 (fun a ha => ⟨wt_isSt (p3.2 a ha), by rw [wt_sz a _ (p3.2 a ha)]; rfl⟩) (fun a ha => ⟨wt_isSt (q3.2 a ha), by rw [wt_sz a _ (q3.2 a ha)]; rfl⟩) (fun a ha b hb => ih a (by have := nn_of_mem ha; simp only [U.nn, U.nns]; omega) (p3.2 a ha) b (q3.2 b hb)))

theorem specTexts_step {us vs : List U} (hb1 : us.length ≤ big) (hb2 : vs.length ≤ big) (hz : ∀ a ∈ us, ∃ l : List UInt8, a = .s l ∧ l.length ≤ big) (hz2 : ∀ a ∈ vs, ∃ l : List UInt8, a = .s l ∧ l.length ≤ big) : PEq 42 (.sl 1 us) (.sl 1 vs) := by
  rw [big_eq] at hb1 hb2
  refine SpecP_intro Try.func42 rfl (by kernel_rfl) rfl fun A => ?_
  (first | refine V_seq_region ?_ | refine V_seq (V_seq_region ?_) | refine V_seq_draw tmix (by kernel_rfl) ?_ | refine V_seq (V_seq_draw tmix (by kernel_rfl) ?_) | refine V_region ?_ | refine V_draw tmix (by kernel_rfl) ?_)
  repeat refine VO_d ?_
  (first | refine VO_nil ?_ | refine VQ_nil ?_)
  (first | refine V_seq_region ?_ | refine V_seq (V_seq_region ?_) | refine V_seq_draw tmix (by kernel_rfl) ?_ | refine V_seq (V_seq_draw tmix (by kernel_rfl) ?_) | refine V_region ?_ | refine V_draw tmix (by kernel_rfl) ?_)
  repeat refine VO_d ?_
  (first | refine VO_nil ?_ | refine VQ_nil ?_)
  refine V_cond rfl (fun hc => ?_) (fun hc => ?_)
  · (first | refine V_seq_region ?_ | refine V_seq (V_seq_region ?_) | refine V_seq_draw tmix (by kernel_rfl) ?_ | refine V_seq (V_seq_draw tmix (by kernel_rfl) ?_) | refine V_region ?_ | refine V_draw tmix (by kernel_rfl) ?_)
    repeat refine VO_d ?_
    (first | refine VO_nil ?_ | refine VQ_nil ?_)
    refine V_ret ?_
    exact ⟨trivial, ⟨_, rfl, congrArg U.b (deq_false.2 (by intro h; injection h with _ h; subst h; simp at hc)).symm⟩, trivial⟩
  refine V_skip ?_
  have hll : us.length = vs.length := by simp at hc; omega
  (first | refine V_seq_region ?_ | refine V_seq (V_seq_region ?_) | refine V_seq_draw tmix (by kernel_rfl) ?_ | refine V_seq (V_seq_draw tmix (by kernel_rfl) ?_) | refine V_region ?_ | refine V_draw tmix (by kernel_rfl) ?_)
  repeat refine VO_d ?_
  (first | refine VO_nil ?_ | refine VQ_nil ?_)
  refine V_block ?_
  refine V_loop (α := Nat)
    (fun k => ⟨[(0, .d (.sl 1 us)), (1, .d (.sl 1 vs)), (5, .d (.i .i64 k))], [], Try.f42.ntmps⟩)
    (fun k => k ≤ us.length ∧ ∀ j, j < k → us[j]? = vs[j]?)
    (fun k => us.length - k) 0 ⟨rfl, ⟨⟨rfl, rfl⟩, ⟨rfl, rfl⟩, ⟨rfl, rfl⟩, trivial⟩, ⟨[], rfl⟩, rfl⟩ ⟨by simp, by simp⟩ ?_
  rintro k ⟨hk, hsame⟩
  (first | refine V_seq_region ?_ | refine V_seq (V_seq_region ?_) | refine V_seq_draw tmix (by kernel_rfl) ?_ | refine V_seq (V_seq_draw tmix (by kernel_rfl) ?_) | refine V_region ?_ | refine V_draw tmix (by kernel_rfl) ?_)
  repeat refine VO_d ?_
  (first | refine VO_nil ?_ | refine VQ_nil ?_)
  refine V_cond rfl (fun hc2 => ?_) (fun hc2 => ?_)
  · refine V_skip ?_
    simp only [decide_eq_true_eq] at hc2
    have hkl : k < us.length := by omega
    have hkv : k < vs.length := by omega
    have hget : us[k]? = some us[k] := List.getElem?_eq_getElem hkl
    have hgev : vs[k]? = some vs[k] := List.getElem?_eq_getElem hkv
    have hmem : us[k] ∈ us := List.getElem_mem hkl
    have hmev : vs[k] ∈ vs := List.getElem_mem hkv
    obtain ⟨l1, h1, _⟩ := hz _ hmem
    obtain ⟨l2, h2, _⟩ := hz2 _ hmev
    have hg1 : us[k]? = some (.s l1) := by rw [hget, h1]
    have hg2 : vs[k]? = some (.s l2) := by rw [hgev, h2]
    refine V_seq (V_block ?_)
    (first | refine V_seq_region ?_ | refine V_seq (V_seq_region ?_) | refine V_seq_draw tmix (by kernel_rfl) ?_ | refine V_seq (V_seq_draw tmix (by kernel_rfl) ?_) | refine V_region ?_ | refine V_draw tmix (by kernel_rfl) ?_)
    repeat (first | refine VO_d ?_ | refine VQ_d ?_)
    (first | refine VO_q (Q_index rfl rfl TE.h TI.h (by omega) hg1) rfl ?_ | refine VQ_q (Q_index rfl rfl TE.h TI.h (by omega) hg1) rfl ?_ | (refine VO_bare rfl rfl rfl rfl ?_; refine VO_q (Q_index rfl rfl TE.h TI.h (by omega) hg1) rfl ?_) | refine VQ_run rfl rfl rfl rfl (Q_index rfl rfl TE.h TI.h (by omega) hg1) rfl ?_)
    repeat (first | refine VO_d ?_ | refine VQ_d ?_)
    (first | refine VO_q (Q_index rfl rfl TE.h TI.h (by omega) hg2) rfl ?_ | refine VQ_q (Q_index rfl rfl TE.h TI.h (by omega) hg2) rfl ?_ | (refine VO_bare rfl rfl rfl rfl ?_; refine VO_q (Q_index rfl rfl TE.h TI.h (by omega) hg2) rfl ?_) | refine VQ_run rfl rfl rfl rfl (Q_index rfl rfl TE.h TI.h (by omega) hg2) rfl ?_)
    repeat (first | refine VO_d ?_ | refine VQ_d ?_)
    (first | refine VO_nil ?_ | refine VQ_nil ?_)
    refine V_cond rfl (fun hc3 => ?_) (fun hc3 => ?_)
    · (first | refine V_seq_region ?_ | refine V_seq (V_seq_region ?_) | refine V_seq_draw tmix (by kernel_rfl) ?_ | refine V_seq (V_seq_draw tmix (by kernel_rfl) ?_) | refine V_region ?_ | refine V_draw tmix (by kernel_rfl) ?_)
      repeat refine VO_d ?_
      (first | refine VO_nil ?_ | refine VQ_nil ?_)
      refine V_ret ?_
      exact ⟨trivial, ⟨_, rfl, congrArg U.b (deq_false.2 (by intro h; injection h with _ h; subst h; rw [hg1] at hg2; injection hg2 with hg2; injection hg2; simp_all)).symm⟩, trivial⟩
    refine V_skip ?_
    have heq : us[k] = vs[k] := by rw [h1, h2]; simp at hc3; rw [hc3]
    (first | refine V_seq_region ?_ | refine V_seq (V_seq_region ?_) | refine V_seq_draw tmix (by kernel_rfl) ?_ | refine V_seq (V_seq_draw tmix (by kernel_rfl) ?_) | refine V_region ?_ | refine V_draw tmix (by kernel_rfl) ?_)
    repeat refine VO_d ?_
    (first | refine VO_nil ?_ | refine VQ_nil ?_)
    refine ⟨k + 1, ⟨by omega, fun j hj => ?_⟩, by omega, ⟨rfl, ⟨⟨rfl, rfl⟩, ⟨rfl, rfl⟩, ⟨rfl, rfl⟩, trivial⟩, ⟨[], rfl⟩, rfl⟩⟩
    by_cases hjk : j = k
    · subst hjk; rw [hget, hgev, heq]
    · exact hsame j (by omega)
  · refine V_exit ?_
    simp only [decide_eq_false_iff_not] at hc2
    have hkl : k = us.length := by omega
    subst hkl
    have hall : us = vs := by
      apply List.ext_getElem?
      intro j
      by_cases hj : j < us.length
      · exact hsame j hj
      · rw [List.getElem?_eq_none (by omega), List.getElem?_eq_none (by omega)]
    show V _ _ _ _ _
    (first | refine V_seq_region ?_ | refine V_seq (V_seq_region ?_) | refine V_seq_draw tmix (by kernel_rfl) ?_ | refine V_seq (V_seq_draw tmix (by kernel_rfl) ?_) | refine V_region ?_ | refine V_draw tmix (by kernel_rfl) ?_)
    repeat refine VO_d ?_
    (first | refine VO_nil ?_ | refine VQ_nil ?_)
    refine V_ret ?_
    exact ⟨trivial, ⟨_, rfl, congrArg U.b (deq_true.2 (by rw [hall])).symm⟩, trivial⟩

set_option maxHeartbeats 8000000 in
theorem specCore_step {f0 : Int} {f1 : List UInt8} {f2 : List UInt8} {f3 : Int} {f4 : U} {f5 : List U} {f6 : List U} {f7 : List U} {f8 : List U} {d0 : Int} {d1 : List UInt8} {d2 : List UInt8} {d3 : Int} {d4 : U} {d5 : List U} {d6 : List U} {d7 : List U} {d8 : List U} (g4 : wt (.st 1) f4) (j4 : wt (.st 1) d4) (h4 : SpecP Try.prog 29 [.d (f4), .d (d4)] [.b (deq (f4) (d4))]) (h5 : SpecP Try.prog 37 [.d (.sl 3 f5), .d (.sl 3 d5)] [.b (deq (.sl 3 f5) (.sl 3 d5))]) (h6 : SpecP Try.prog 68 [.d (.sl 5 f6), .d (.sl 5 d6)] [.b (deq (.sl 5 f6) (.sl 5 d6))]) (b7 : f7.length ≤ big) (c7 : d7.length ≤ big) (z7 : ∀ a ∈ f7, wt (.st 21) a) (y7 : ∀ a ∈ d7, wt (.st 21) a) (h7 : ∀ a ∈ f7, ∀ b ∈ d7, SpecP Try.prog 45 [.d a, .d b] [.b (deq a b)]) (b8 : f8.length ≤ big) (c8 : d8.length ≤ big) (z8 : ∀ a ∈ f8, wt (.st 20) a) (y8 : ∀ a ∈ d8, wt (.st 20) a) (h8_1 : ∀ (x0 : List UInt8) (x1 : List U) (x2 : U) (w0 : List UInt8) (w1 : List U) (w2 : U), .st [.s x0, .sl 1 x1, x2] ∈ f8 → .st [.s w0, .sl 1 w1, w2] ∈ d8 → SpecP Try.prog 42 [.d (.sl 1 x1), .d (.sl 1 w1)] [.b (deq (.sl 1 x1) (.sl 1 w1))]) (h8_2 : ∀ (x0 : List UInt8) (x1 : List U) (x2 : U) (w0 : List UInt8) (w1 : List U) (w2 : U), .st [.s x0, .sl 1 x1, x2] ∈ f8 → .st [.s w0, .sl 1 w1, w2] ∈ d8 → SpecP Try.prog 45 [.d (x2), .d (w2)] [.b (deq (x2) (w2))]) : PEq 45 (.st [.i .i64 f0, .s f1, .s f2, .i .i64 f3, f4, .sl 3 f5, .sl 5 f6, .sl 11 f7, .sl 13 f8]) (.st [.i .i64 d0, .s d1, .s d2, .i .i64 d3, d4, .sl 3 d5, .sl 5 d6, .sl 11 d7, .sl 13 d8]) := by
  obtain ⟨r4, s4⟩ : ∃ r, deq (f4) (d4) = r := ⟨_, rfl⟩
  rw [s4] at h4
  obtain ⟨r5, s5⟩ : ∃ r, deq (.sl 3 f5) (.sl 3 d5) = r := ⟨_, rfl⟩
  rw [s5] at h5
  obtain ⟨r6, s6⟩ : ∃ r, deq (.sl 5 f6) (.sl 5 d6) = r := ⟨_, rfl⟩
  rw [s6] at h6
  obtain ⟨f4_0, f4_1, f4_2, rfl, g4_0, g4_1, g4_2⟩ := inv_Type g4
  obtain ⟨d4_0, d4_1, d4_2, rfl, j4_0, j4_1, j4_2⟩ := inv_Type j4
  have B7 := b7
  have C7 := c7
  rw [big_eq] at B7 C7
  have B8 := b8
  have C8 := c8
  rw [big_eq] at B8 C8
  refine SpecP_intro Try.func45 rfl (by kernel_rfl) rfl fun A => ?_
  (first | refine V_seq_region ?_ | refine V_seq (V_seq_region ?_) | refine V_seq_draw tmix (by kernel_rfl) ?_ | refine V_seq (V_seq_draw tmix (by kernel_rfl) ?_) | refine V_region ?_ | refine V_draw tmix (by kernel_rfl) ?_)
  repeat refine VO_d ?_
  (first | refine VO_nil ?_ | refine VQ_nil ?_)
  (first | refine V_seq_region ?_ | refine V_seq (V_seq_region ?_) | refine V_seq_draw tmix (by kernel_rfl) ?_ | refine V_seq (V_seq_draw tmix (by kernel_rfl) ?_) | refine V_region ?_ | refine V_draw tmix (by kernel_rfl) ?_)
  repeat refine VO_d ?_
  cases k0 : (f0 != d0)
  rotate_left
  · skip
    repeat refine VO_d ?_
    (first | refine VO_nil ?_ | refine VQ_nil ?_)
    (first | refine V_cond rfl (fun hc => ?_) (fun hc => ?_) | refine V_seq (V_cond rfl (fun hc => ?_) (fun hc => ?_)))
    · (first | refine V_seq_region ?_ | refine V_seq (V_seq_region ?_) | refine V_seq_draw tmix (by kernel_rfl) ?_ | refine V_seq (V_seq_draw tmix (by kernel_rfl) ?_) | refine V_region ?_ | refine V_draw tmix (by kernel_rfl) ?_)
      repeat refine VO_d ?_
      (first | refine VO_nil ?_ | refine VQ_nil ?_)
      refine V_ret ?_
      exact ⟨trivial, ⟨_, rfl, congrArg U.b (deq_false.2 (by intro h; cases h; simp [deq_self] at k0)).symm⟩, trivial⟩
    · cases hc
  repeat refine VO_d ?_
  cases k1 : (!(f1 == d1))
  rotate_left
  · skip
    repeat refine VO_d ?_
    (first | refine VO_nil ?_ | refine VQ_nil ?_)
    (first | refine V_cond rfl (fun hc => ?_) (fun hc => ?_) | refine V_seq (V_cond rfl (fun hc => ?_) (fun hc => ?_)))
    · (first | refine V_seq_region ?_ | refine V_seq (V_seq_region ?_) | refine V_seq_draw tmix (by kernel_rfl) ?_ | refine V_seq (V_seq_draw tmix (by kernel_rfl) ?_) | refine V_region ?_ | refine V_draw tmix (by kernel_rfl) ?_)
      repeat refine VO_d ?_
      (first | refine VO_nil ?_ | refine VQ_nil ?_)
      refine V_ret ?_
      exact ⟨trivial, ⟨_, rfl, congrArg U.b (deq_false.2 (by intro h; cases h; simp [deq_self] at k1)).symm⟩, trivial⟩
    · cases hc
  repeat refine VO_d ?_
  cases k2 : (!(f2 == d2))
  rotate_left
  · skip
    repeat refine VO_d ?_
    (first | refine VO_nil ?_ | refine VQ_nil ?_)
    (first | refine V_cond rfl (fun hc => ?_) (fun hc => ?_) | refine V_seq (V_cond rfl (fun hc => ?_) (fun hc => ?_)))
    · (first | refine V_seq_region ?_ | refine V_seq (V_seq_region ?_) | refine V_seq_draw tmix (by kernel_rfl) ?_ | refine V_seq (V_seq_draw tmix (by kernel_rfl) ?_) | refine V_region ?_ | refine V_draw tmix (by kernel_rfl) ?_)
      repeat refine VO_d ?_
      (first | refine VO_nil ?_ | refine VQ_nil ?_)
      refine V_ret ?_
      exact ⟨trivial, ⟨_, rfl, congrArg U.b (deq_false.2 (by intro h; cases h; simp [deq_self] at k2)).symm⟩, trivial⟩
    · cases hc
  repeat refine VO_d ?_
  cases k3 : (f3 != d3)
  rotate_left
  · skip
    repeat refine VO_d ?_
    (first | refine VO_nil ?_ | refine VQ_nil ?_)
    (first | refine V_cond rfl (fun hc => ?_) (fun hc => ?_) | refine V_seq (V_cond rfl (fun hc => ?_) (fun hc => ?_)))
    · (first | refine V_seq_region ?_ | refine V_seq (V_seq_region ?_) | refine V_seq_draw tmix (by kernel_rfl) ?_ | refine V_seq (V_seq_draw tmix (by kernel_rfl) ?_) | refine V_region ?_ | refine V_draw tmix (by kernel_rfl) ?_)
      repeat refine VO_d ?_
      (first | refine VO_nil ?_ | refine VQ_nil ?_)
      refine V_ret ?_
      exact ⟨trivial, ⟨_, rfl, congrArg U.b (deq_false.2 (by intro h; cases h; simp [deq_self] at k3)).symm⟩, trivial⟩
    · cases hc
  repeat refine VO_d ?_
  (first | refine VO_q (Q_call rfl h4 (by repeat (first | exact trivial | exact rfl | exact ⟨_, rfl⟩ | refine And.intro ?_ ?_))) rfl ?_ | refine VQ_q (Q_call rfl h4 (by repeat (first | exact trivial | exact rfl | exact ⟨_, rfl⟩ | refine And.intro ?_ ?_))) rfl ?_ | (refine VO_bare rfl rfl rfl rfl ?_; refine VO_q (Q_call rfl h4 (by repeat (first | exact trivial | exact rfl | exact ⟨_, rfl⟩ | refine And.intro ?_ ?_))) rfl ?_) | refine VQ_run rfl rfl rfl rfl (Q_call rfl h4 (by repeat (first | exact trivial | exact rfl | exact ⟨_, rfl⟩ | refine And.intro ?_ ?_))) rfl ?_)
  repeat refine VO_d ?_
  cases r4
  · skip
    repeat refine VO_d ?_
    (first | refine VO_nil ?_ | refine VQ_nil ?_)
    (first | refine V_cond rfl (fun hc => ?_) (fun hc => ?_) | refine V_seq (V_cond rfl (fun hc => ?_) (fun hc => ?_)))
    · (first | refine V_seq_region ?_ | refine V_seq (V_seq_region ?_) | refine V_seq_draw tmix (by kernel_rfl) ?_ | refine V_seq (V_seq_draw tmix (by kernel_rfl) ?_) | refine V_region ?_ | refine V_draw tmix (by kernel_rfl) ?_)
      repeat refine VO_d ?_
      (first | refine VO_nil ?_ | refine VQ_nil ?_)
      refine V_ret ?_
      exact ⟨trivial, ⟨_, rfl, congrArg U.b (deq_false.2 (by intro h; cases h; simp [deq_self] at s4)).symm⟩, trivial⟩
    · cases hc
  repeat refine VO_d ?_
  (first | refine VO_q (Q_call rfl h5 (by repeat (first | exact trivial | exact rfl | exact ⟨_, rfl⟩ | refine And.intro ?_ ?_))) rfl ?_ | refine VQ_q (Q_call rfl h5 (by repeat (first | exact trivial | exact rfl | exact ⟨_, rfl⟩ | refine And.intro ?_ ?_))) rfl ?_ | (refine VO_bare rfl rfl rfl rfl ?_; refine VO_q (Q_call rfl h5 (by repeat (first | exact trivial | exact rfl | exact ⟨_, rfl⟩ | refine And.intro ?_ ?_))) rfl ?_) | refine VQ_run rfl rfl rfl rfl (Q_call rfl h5 (by repeat (first | exact trivial | exact rfl | exact ⟨_, rfl⟩ | refine And.intro ?_ ?_))) rfl ?_)
  repeat refine VO_d ?_
  cases r5
  · skip
    repeat refine VO_d ?_
    (first | refine VO_nil ?_ | refine VQ_nil ?_)
    (first | refine V_cond rfl (fun hc => ?_) (fun hc => ?_) | refine V_seq (V_cond rfl (fun hc => ?_) (fun hc => ?_)))
    · (first | refine V_seq_region ?_ | refine V_seq (V_seq_region ?_) | refine V_seq_draw tmix (by kernel_rfl) ?_ | refine V_seq (V_seq_draw tmix (by kernel_rfl) ?_) | refine V_region ?_ | refine V_draw tmix (by kernel_rfl) ?_)
      repeat refine VO_d ?_
      (first | refine VO_nil ?_ | refine VQ_nil ?_)
      refine V_ret ?_
      exact ⟨trivial, ⟨_, rfl, congrArg U.b (deq_false.2 (by intro h; cases h; simp [deq_self] at s5)).symm⟩, trivial⟩
    · cases hc
  repeat refine VO_d ?_
  (first | refine VO_q (Q_call rfl h6 (by repeat (first | exact trivial | exact rfl | exact ⟨_, rfl⟩ | refine And.intro ?_ ?_))) rfl ?_ | refine VQ_q (Q_call rfl h6 (by repeat (first | exact trivial | exact rfl | exact ⟨_, rfl⟩ | refine And.intro ?_ ?_))) rfl ?_ | (refine VO_bare rfl rfl rfl rfl ?_; refine VO_q (Q_call rfl h6 (by repeat (first | exact trivial | exact rfl | exact ⟨_, rfl⟩ | refine And.intro ?_ ?_))) rfl ?_) | refine VQ_run rfl rfl rfl rfl (Q_call rfl h6 (by repeat (first | exact trivial | exact rfl | exact ⟨_, rfl⟩ | refine And.intro ?_ ?_))) rfl ?_)
  repeat refine VO_d ?_
  cases r6
  · skip
    repeat refine VO_d ?_
    (first | refine VO_nil ?_ | refine VQ_nil ?_)
    (first | refine V_cond rfl (fun hc => ?_) (fun hc => ?_) | refine V_seq (V_cond rfl (fun hc => ?_) (fun hc => ?_)))
    · (first | refine V_seq_region ?_ | refine V_seq (V_seq_region ?_) | refine V_seq_draw tmix (by kernel_rfl) ?_ | refine V_seq (V_seq_draw tmix (by kernel_rfl) ?_) | refine V_region ?_ | refine V_draw tmix (by kernel_rfl) ?_)
      repeat refine VO_d ?_
      (first | refine VO_nil ?_ | refine VQ_nil ?_)
      refine V_ret ?_
      exact ⟨trivial, ⟨_, rfl, congrArg U.b (deq_false.2 (by intro h; cases h; simp [deq_self] at s6)).symm⟩, trivial⟩
    · cases hc
  repeat refine VO_d ?_
  cases k7 : ((f7.length : Int) != (d7.length : Int))
  rotate_left
  · skip
    repeat refine VO_d ?_
    (first | refine VO_nil ?_ | refine VQ_nil ?_)
    (first | refine V_cond rfl (fun hc => ?_) (fun hc => ?_) | refine V_seq (V_cond rfl (fun hc => ?_) (fun hc => ?_)))
    · (first | refine V_seq_region ?_ | refine V_seq (V_seq_region ?_) | refine V_seq_draw tmix (by kernel_rfl) ?_ | refine V_seq (V_seq_draw tmix (by kernel_rfl) ?_) | refine V_region ?_ | refine V_draw tmix (by kernel_rfl) ?_)
      repeat refine VO_d ?_
      (first | refine VO_nil ?_ | refine VQ_nil ?_)
      refine V_ret ?_
      exact ⟨trivial, ⟨_, rfl, congrArg U.b (deq_false.2 (by intro h; cases h; simp [deq_self] at k7)).symm⟩, trivial⟩
    · cases hc
  repeat refine VO_d ?_
  cases k8 : ((f8.length : Int) != (d8.length : Int))
  rotate_left
  · skip
    repeat refine VO_d ?_
    (first | refine VO_nil ?_ | refine VQ_nil ?_)
    (first | refine V_cond rfl (fun hc => ?_) (fun hc => ?_) | refine V_seq (V_cond rfl (fun hc => ?_) (fun hc => ?_)))
    · (first | refine V_seq_region ?_ | refine V_seq (V_seq_region ?_) | refine V_seq_draw tmix (by kernel_rfl) ?_ | refine V_seq (V_seq_draw tmix (by kernel_rfl) ?_) | refine V_region ?_ | refine V_draw tmix (by kernel_rfl) ?_)
      repeat refine VO_d ?_
      (first | refine VO_nil ?_ | refine VQ_nil ?_)
      refine V_ret ?_
      exact ⟨trivial, ⟨_, rfl, congrArg U.b (deq_false.2 (by intro h; cases h; simp [deq_self] at k8)).symm⟩, trivial⟩
    · cases hc
  repeat refine VO_d ?_
  (first | refine VO_nil ?_ | refine VQ_nil ?_)
  (first | refine V_cond rfl (fun hc => ?_) (fun hc => ?_) | refine V_seq (V_cond rfl (fun hc => ?_) (fun hc => ?_)))
  · cases hc
  refine V_skip ?_
  clear hc
  have e0 : f0 = d0 := by simpa using k0
  have e1 : f1 = d1 := by simpa using k1
  have e2 : f2 = d2 := by simpa using k2
  have e3 : f3 = d3 := by simpa using k3
  have e7 : f7.length = d7.length := by simp at k7; omega
  have e8 : f8.length = d8.length := by simp at k8; omega
  clear k0
  clear k1
  clear k2
  clear k3
  clear k7
  clear k8
  refine V_seq ?_
  (first | refine V_seq_region ?_ | refine V_seq (V_seq_region ?_) | refine V_seq_draw tmix (by kernel_rfl) ?_ | refine V_seq (V_seq_draw tmix (by kernel_rfl) ?_) | refine V_region ?_ | refine V_draw tmix (by kernel_rfl) ?_)
  repeat refine VO_d ?_
  (first | refine VO_nil ?_ | refine VQ_nil ?_)
  refine V_block ?_
  refine V_loop (α := Nat)
    (fun k => ⟨[(2, .ptr 0 0), (3, .ptr 1 0), (5, .d (.i .i64 k))], [.box [.d (.i .i64 f0), .d (.s f1), .d (.s f2), .d (.i .i64 f3), .d (.i .i64 f4_0), .d (.s f4_1), .d (.sl 3 f4_2), .d (.sl 3 f5), .d (.sl 5 f6), .d (.sl 11 f7), .d (.sl 13 f8)], .box [.d (.i .i64 d0), .d (.s d1), .d (.s d2), .d (.i .i64 d3), .d (.i .i64 d4_0), .d (.s d4_1), .d (.sl 3 d4_2), .d (.sl 3 d5), .d (.sl 5 d6), .d (.sl 11 d7), .d (.sl 13 d8)]], Try.f45.ntmps⟩)
    (fun k => k ≤ f7.length ∧ ∀ j, j < k → f7[j]? = d7[j]?)
    (fun k => f7.length - k) 0 ⟨rfl, ⟨⟨rfl, rfl⟩, ⟨rfl, rfl⟩, ⟨rfl, rfl⟩, trivial⟩, ⟨[], rfl⟩, rfl⟩ ⟨by simp, by simp⟩ ?_
  rintro k ⟨hk, hsame⟩
  (first | refine V_seq_region ?_ | refine V_seq (V_seq_region ?_) | refine V_seq_draw tmix (by kernel_rfl) ?_ | refine V_seq (V_seq_draw tmix (by kernel_rfl) ?_) | refine V_region ?_ | refine V_draw tmix (by kernel_rfl) ?_)
  repeat refine VO_d ?_
  (first | refine VO_nil ?_ | refine VQ_nil ?_)
  (first | refine V_cond rfl (fun hc2 => ?_) (fun hc2 => ?_) | refine V_seq (V_cond rfl (fun hc2 => ?_) (fun hc2 => ?_)))
  · refine V_skip ?_
    simp only [decide_eq_true_eq] at hc2
    obtain ⟨a, hget⟩ : ∃ a, f7[k]? = some a := ⟨_, List.getElem?_eq_getElem (by omega)⟩
    obtain ⟨b, hgev⟩ : ∃ b, d7[k]? = some b := ⟨_, List.getElem?_eq_getElem (by omega)⟩
    have hma := List.mem_of_getElem? hget
    have hmb := List.mem_of_getElem? hgev
    have hwa := z7 a hma
    have hwb := y7 b hmb
    have hcall := h7 a hma b hmb
    obtain ⟨r, hr⟩ : ∃ r, deq a b = r := ⟨_, rfl⟩
    rw [hr] at hcall
    refine V_seq (V_block ?_)
    (first | refine V_seq_region ?_ | refine V_seq (V_seq_region ?_) | refine V_seq_draw tmix (by kernel_rfl) ?_ | refine V_seq (V_seq_draw tmix (by kernel_rfl) ?_) | refine V_region ?_ | refine V_draw tmix (by kernel_rfl) ?_)
    repeat (first | refine VO_d ?_ | refine VQ_d ?_ | (first | refine VO_q (Q_index rfl rfl TE.h TI.h (by omega) hget) rfl ?_ | refine VQ_q (Q_index rfl rfl TE.h TI.h (by omega) hget) rfl ?_ | (refine VO_bare rfl rfl rfl rfl ?_; refine VO_q (Q_index rfl rfl TE.h TI.h (by omega) hget) rfl ?_) | refine VQ_run rfl rfl rfl rfl (Q_index rfl rfl TE.h TI.h (by omega) hget) rfl ?_) | (first | refine VO_q (Q_load rfl TI.h (wt_isSt hwa) (wt_sz _ _ hwa)) rfl ?_ | refine VQ_q (Q_load rfl TI.h (wt_isSt hwa) (wt_sz _ _ hwa)) rfl ?_ | (refine VO_bare rfl rfl rfl rfl ?_; refine VO_q (Q_load rfl TI.h (wt_isSt hwa) (wt_sz _ _ hwa)) rfl ?_) | refine VQ_run rfl rfl rfl rfl (Q_load rfl TI.h (wt_isSt hwa) (wt_sz _ _ hwa)) rfl ?_) | (first | refine VO_q (Q_index rfl rfl TE.h TI.h (by omega) hgev) rfl ?_ | refine VQ_q (Q_index rfl rfl TE.h TI.h (by omega) hgev) rfl ?_ | (refine VO_bare rfl rfl rfl rfl ?_; refine VO_q (Q_index rfl rfl TE.h TI.h (by omega) hgev) rfl ?_) | refine VQ_run rfl rfl rfl rfl (Q_index rfl rfl TE.h TI.h (by omega) hgev) rfl ?_) | (first | refine VO_q (Q_load rfl TI.h (wt_isSt hwb) (wt_sz _ _ hwb)) rfl ?_ | refine VQ_q (Q_load rfl TI.h (wt_isSt hwb) (wt_sz _ _ hwb)) rfl ?_ | (refine VO_bare rfl rfl rfl rfl ?_; refine VO_q (Q_load rfl TI.h (wt_isSt hwb) (wt_sz _ _ hwb)) rfl ?_) | refine VQ_run rfl rfl rfl rfl (Q_load rfl TI.h (wt_isSt hwb) (wt_sz _ _ hwb)) rfl ?_) | (first | refine VO_q (Q_call rfl hcall (by repeat (first | exact trivial | exact rfl | exact ⟨_, rfl⟩ | refine And.intro ?_ ?_))) rfl ?_ | refine VQ_q (Q_call rfl hcall (by repeat (first | exact trivial | exact rfl | exact ⟨_, rfl⟩ | refine And.intro ?_ ?_))) rfl ?_ | (refine VO_bare rfl rfl rfl rfl ?_; refine VO_q (Q_call rfl hcall (by repeat (first | exact trivial | exact rfl | exact ⟨_, rfl⟩ | refine And.intro ?_ ?_))) rfl ?_) | refine VQ_run rfl rfl rfl rfl (Q_call rfl hcall (by repeat (first | exact trivial | exact rfl | exact ⟨_, rfl⟩ | refine And.intro ?_ ?_))) rfl ?_))
    (first | refine VO_nil ?_ | refine VQ_nil ?_)
    (first | refine V_cond rfl (fun hc3 => ?_) (fun hc3 => ?_) | refine V_seq (V_cond rfl (fun hc3 => ?_) (fun hc3 => ?_)))
    · skip
      (first | refine V_seq_region ?_ | refine V_seq (V_seq_region ?_) | refine V_seq_draw tmix (by kernel_rfl) ?_ | refine V_seq (V_seq_draw tmix (by kernel_rfl) ?_) | refine V_region ?_ | refine V_draw tmix (by kernel_rfl) ?_)
      repeat refine VO_d ?_
      (first | refine VO_nil ?_ | refine VQ_nil ?_)
      refine V_ret ?_
      exact ⟨trivial, ⟨_, rfl, congrArg U.b (deq_false.2 (by intro h; cases h; rw [hget] at hgev; cases hgev; rw [deq_self] at hr; subst hr; cases hc3)).symm⟩, trivial⟩
    refine V_skip ?_
    have heq : a = b := deq_true.1 (by rw [hr]; simpa using hc3)
    (first | refine V_seq_region ?_ | refine V_seq (V_seq_region ?_) | refine V_seq_draw tmix (by kernel_rfl) ?_ | refine V_seq (V_seq_draw tmix (by kernel_rfl) ?_) | refine V_region ?_ | refine V_draw tmix (by kernel_rfl) ?_)
    repeat refine VO_d ?_
    (first | refine VO_nil ?_ | refine VQ_nil ?_)
    refine ⟨k + 1, ⟨by omega, fun j hj => ?_⟩, by omega, ⟨rfl, ⟨⟨rfl, rfl⟩, ⟨rfl, rfl⟩, ⟨rfl, rfl⟩, trivial⟩, ⟨[], rfl⟩, rfl⟩⟩
    by_cases hjk : j = k
    · subst hjk; rw [hget, hgev, heq]
    · exact hsame j (by omega)
  refine V_exit ?_
  simp only [decide_eq_false_iff_not] at hc2
  have hkl : k = f7.length := by omega
  subst hkl
  have hall7 : f7 = d7 := by
    apply List.ext_getElem?
    intro j
    by_cases hj : j < f7.length
    · exact hsame j hj
    · rw [List.getElem?_eq_none (by omega), List.getElem?_eq_none (by omega)]
  show V _ _ _ _ _
  clear hsame hc2 hk
  refine V_seq ?_
  (first | refine V_seq_region ?_ | refine V_seq (V_seq_region ?_) | refine V_seq_draw tmix (by kernel_rfl) ?_ | refine V_seq (V_seq_draw tmix (by kernel_rfl) ?_) | refine V_region ?_ | refine V_draw tmix (by kernel_rfl) ?_)
  repeat refine VO_d ?_
  (first | refine VO_nil ?_ | refine VQ_nil ?_)
  refine V_block ?_
  refine V_loop (α := Nat)
    (fun k => ⟨[(2, .ptr 0 0), (3, .ptr 1 0), (6, .d (.i .i64 k))], [.box [.d (.i .i64 f0), .d (.s f1), .d (.s f2), .d (.i .i64 f3), .d (.i .i64 f4_0), .d (.s f4_1), .d (.sl 3 f4_2), .d (.sl 3 f5), .d (.sl 5 f6), .d (.sl 11 f7), .d (.sl 13 f8)], .box [.d (.i .i64 d0), .d (.s d1), .d (.s d2), .d (.i .i64 d3), .d (.i .i64 d4_0), .d (.s d4_1), .d (.sl 3 d4_2), .d (.sl 3 d5), .d (.sl 5 d6), .d (.sl 11 d7), .d (.sl 13 d8)]], Try.f45.ntmps⟩)
    (fun k => k ≤ f8.length ∧ ∀ j, j < k → f8[j]? = d8[j]?)
    (fun k => f8.length - k) 0 ⟨rfl, ⟨⟨rfl, rfl⟩, ⟨rfl, rfl⟩, ⟨rfl, rfl⟩, trivial⟩, ⟨[], rfl⟩, rfl⟩ ⟨by simp, by simp⟩ ?_
  rintro k ⟨hk, hsame⟩
  (first | refine V_seq_region ?_ | refine V_seq (V_seq_region ?_) | refine V_seq_draw tmix (by kernel_rfl) ?_ | refine V_seq (V_seq_draw tmix (by kernel_rfl) ?_) | refine V_region ?_ | refine V_draw tmix (by kernel_rfl) ?_)
  repeat refine VO_d ?_
  (first | refine VO_nil ?_ | refine VQ_nil ?_)
  (first | refine V_cond rfl (fun hc2 => ?_) (fun hc2 => ?_) | refine V_seq (V_cond rfl (fun hc2 => ?_) (fun hc2 => ?_)))
  · refine V_skip ?_
    simp only [decide_eq_true_eq] at hc2
    obtain ⟨a, hget⟩ : ∃ a, f8[k]? = some a := ⟨_, List.getElem?_eq_getElem (by omega)⟩
    obtain ⟨b, hgev⟩ : ∃ b, d8[k]? = some b := ⟨_, List.getElem?_eq_getElem (by omega)⟩
    have hma := List.mem_of_getElem? hget
    have hmb := List.mem_of_getElem? hgev
    have hwa := z8 a hma
    have hwb := y8 b hmb
    obtain ⟨x0, x1, x2, rfl, xx_0, xx_1, xx_2⟩ := inv_CoreArm hwa
    obtain ⟨w0, w1, w2, rfl, ww_0, ww_1, ww_2⟩ := inv_CoreArm hwb
    have hc_1 := h8_1 x0 x1 x2 w0 w1 w2 hma hmb
    obtain ⟨r_1, s_1⟩ : ∃ r, deq (.sl 1 x1) (.sl 1 w1) = r := ⟨_, rfl⟩
    rw [s_1] at hc_1
    have hc_2 := h8_2 x0 x1 x2 w0 w1 w2 hma hmb
    obtain ⟨r_2, s_2⟩ : ∃ r, deq (x2) (w2) = r := ⟨_, rfl⟩
    rw [s_2] at hc_2
    refine V_seq (V_block ?_)
    (first | refine V_seq_region ?_ | refine V_seq (V_seq_region ?_) | refine V_seq_draw tmix (by kernel_rfl) ?_ | refine V_seq (V_seq_draw tmix (by kernel_rfl) ?_) | refine V_region ?_ | refine V_draw tmix (by kernel_rfl) ?_)
    repeat (first | refine VO_d ?_ | refine VQ_d ?_ | (first | refine VO_q (Q_index rfl rfl TE.h TI.h (by omega) hget) rfl ?_ | refine VQ_q (Q_index rfl rfl TE.h TI.h (by omega) hget) rfl ?_ | (refine VO_bare rfl rfl rfl rfl ?_; refine VO_q (Q_index rfl rfl TE.h TI.h (by omega) hget) rfl ?_) | refine VQ_run rfl rfl rfl rfl (Q_index rfl rfl TE.h TI.h (by omega) hget) rfl ?_) | (first | refine VO_q (Q_index rfl rfl TE.h TI.h (by omega) hgev) rfl ?_ | refine VQ_q (Q_index rfl rfl TE.h TI.h (by omega) hgev) rfl ?_ | (refine VO_bare rfl rfl rfl rfl ?_; refine VO_q (Q_index rfl rfl TE.h TI.h (by omega) hgev) rfl ?_) | refine VQ_run rfl rfl rfl rfl (Q_index rfl rfl TE.h TI.h (by omega) hgev) rfl ?_) | (first | refine VO_q (Q_call rfl hc_1 (by repeat (first | exact trivial | exact rfl | exact ⟨_, rfl⟩ | refine And.intro ?_ ?_))) rfl ?_ | refine VQ_q (Q_call rfl hc_1 (by repeat (first | exact trivial | exact rfl | exact ⟨_, rfl⟩ | refine And.intro ?_ ?_))) rfl ?_ | (refine VO_bare rfl rfl rfl rfl ?_; refine VO_q (Q_call rfl hc_1 (by repeat (first | exact trivial | exact rfl | exact ⟨_, rfl⟩ | refine And.intro ?_ ?_))) rfl ?_) | refine VQ_run rfl rfl rfl rfl (Q_call rfl hc_1 (by repeat (first | exact trivial | exact rfl | exact ⟨_, rfl⟩ | refine And.intro ?_ ?_))) rfl ?_) | (first | refine VO_q (Q_load rfl TI.h (wt_isSt xx_2) (wt_sz _ _ xx_2)) rfl ?_ | refine VQ_q (Q_load rfl TI.h (wt_isSt xx_2) (wt_sz _ _ xx_2)) rfl ?_ | (refine VO_bare rfl rfl rfl rfl ?_; refine VO_q (Q_load rfl TI.h (wt_isSt xx_2) (wt_sz _ _ xx_2)) rfl ?_) | refine VQ_run rfl rfl rfl rfl (Q_load rfl TI.h (wt_isSt xx_2) (wt_sz _ _ xx_2)) rfl ?_) | (first | refine VO_q (Q_load rfl TI.h (wt_isSt ww_2) (wt_sz _ _ ww_2)) rfl ?_ | refine VQ_q (Q_load rfl TI.h (wt_isSt ww_2) (wt_sz _ _ ww_2)) rfl ?_ | (refine VO_bare rfl rfl rfl rfl ?_; refine VO_q (Q_load rfl TI.h (wt_isSt ww_2) (wt_sz _ _ ww_2)) rfl ?_) | refine VQ_run rfl rfl rfl rfl (Q_load rfl TI.h (wt_isSt ww_2) (wt_sz _ _ ww_2)) rfl ?_) | (first | refine VO_q (Q_call rfl hc_2 (by repeat (first | exact trivial | exact rfl | exact ⟨_, rfl⟩ | refine And.intro ?_ ?_))) rfl ?_ | refine VQ_q (Q_call rfl hc_2 (by repeat (first | exact trivial | exact rfl | exact ⟨_, rfl⟩ | refine And.intro ?_ ?_))) rfl ?_ | (refine VO_bare rfl rfl rfl rfl ?_; refine VO_q (Q_call rfl hc_2 (by repeat (first | exact trivial | exact rfl | exact ⟨_, rfl⟩ | refine And.intro ?_ ?_))) rfl ?_) | refine VQ_run rfl rfl rfl rfl (Q_call rfl hc_2 (by repeat (first | exact trivial | exact rfl | exact ⟨_, rfl⟩ | refine And.intro ?_ ?_))) rfl ?_))
    cases k_0 : (!(x0 == w0))
    rotate_left
    · skip
      repeat (first | refine VO_d ?_ | refine VQ_d ?_ | (first | refine VO_q (Q_index rfl rfl TE.h TI.h (by omega) hget) rfl ?_ | refine VQ_q (Q_index rfl rfl TE.h TI.h (by omega) hget) rfl ?_ | (refine VO_bare rfl rfl rfl rfl ?_; refine VO_q (Q_index rfl rfl TE.h TI.h (by omega) hget) rfl ?_) | refine VQ_run rfl rfl rfl rfl (Q_index rfl rfl TE.h TI.h (by omega) hget) rfl ?_) | (first | refine VO_q (Q_index rfl rfl TE.h TI.h (by omega) hgev) rfl ?_ | refine VQ_q (Q_index rfl rfl TE.h TI.h (by omega) hgev) rfl ?_ | (refine VO_bare rfl rfl rfl rfl ?_; refine VO_q (Q_index rfl rfl TE.h TI.h (by omega) hgev) rfl ?_) | refine VQ_run rfl rfl rfl rfl (Q_index rfl rfl TE.h TI.h (by omega) hgev) rfl ?_) | (first | refine VO_q (Q_call rfl hc_1 (by repeat (first | exact trivial | exact rfl | exact ⟨_, rfl⟩ | refine And.intro ?_ ?_))) rfl ?_ | refine VQ_q (Q_call rfl hc_1 (by repeat (first | exact trivial | exact rfl | exact ⟨_, rfl⟩ | refine And.intro ?_ ?_))) rfl ?_ | (refine VO_bare rfl rfl rfl rfl ?_; refine VO_q (Q_call rfl hc_1 (by repeat (first | exact trivial | exact rfl | exact ⟨_, rfl⟩ | refine And.intro ?_ ?_))) rfl ?_) | refine VQ_run rfl rfl rfl rfl (Q_call rfl hc_1 (by repeat (first | exact trivial | exact rfl | exact ⟨_, rfl⟩ | refine And.intro ?_ ?_))) rfl ?_) | (first | refine VO_q (Q_load rfl TI.h (wt_isSt xx_2) (wt_sz _ _ xx_2)) rfl ?_ | refine VQ_q (Q_load rfl TI.h (wt_isSt xx_2) (wt_sz _ _ xx_2)) rfl ?_ | (refine VO_bare rfl rfl rfl rfl ?_; refine VO_q (Q_load rfl TI.h (wt_isSt xx_2) (wt_sz _ _ xx_2)) rfl ?_) | refine VQ_run rfl rfl rfl rfl (Q_load rfl TI.h (wt_isSt xx_2) (wt_sz _ _ xx_2)) rfl ?_) | (first | refine VO_q (Q_load rfl TI.h (wt_isSt ww_2) (wt_sz _ _ ww_2)) rfl ?_ | refine VQ_q (Q_load rfl TI.h (wt_isSt ww_2) (wt_sz _ _ ww_2)) rfl ?_ | (refine VO_bare rfl rfl rfl rfl ?_; refine VO_q (Q_load rfl TI.h (wt_isSt ww_2) (wt_sz _ _ ww_2)) rfl ?_) | refine VQ_run rfl rfl rfl rfl (Q_load rfl TI.h (wt_isSt ww_2) (wt_sz _ _ ww_2)) rfl ?_) | (first | refine VO_q (Q_call rfl hc_2 (by repeat (first | exact trivial | exact rfl | exact ⟨_, rfl⟩ | refine And.intro ?_ ?_))) rfl ?_ | refine VQ_q (Q_call rfl hc_2 (by repeat (first | exact trivial | exact rfl | exact ⟨_, rfl⟩ | refine And.intro ?_ ?_))) rfl ?_ | (refine VO_bare rfl rfl rfl rfl ?_; refine VO_q (Q_call rfl hc_2 (by repeat (first | exact trivial | exact rfl | exact ⟨_, rfl⟩ | refine And.intro ?_ ?_))) rfl ?_) | refine VQ_run rfl rfl rfl rfl (Q_call rfl hc_2 (by repeat (first | exact trivial | exact rfl | exact ⟨_, rfl⟩ | refine And.intro ?_ ?_))) rfl ?_))
      (first | refine VO_nil ?_ | refine VQ_nil ?_)
      (first | refine V_cond rfl (fun hc3 => ?_) (fun hc3 => ?_) | refine V_seq (V_cond rfl (fun hc3 => ?_) (fun hc3 => ?_)))
      · skip
        (first | refine V_seq_region ?_ | refine V_seq (V_seq_region ?_) | refine V_seq_draw tmix (by kernel_rfl) ?_ | refine V_seq (V_seq_draw tmix (by kernel_rfl) ?_) | refine V_region ?_ | refine V_draw tmix (by kernel_rfl) ?_)
        repeat refine VO_d ?_
        (first | refine VO_nil ?_ | refine VQ_nil ?_)
        refine V_ret ?_
        exact ⟨trivial, ⟨_, rfl, congrArg U.b (deq_false.2 (by intro h; cases h; rw [hget] at hgev; cases hgev; simp [deq_self] at k_0)).symm⟩, trivial⟩
      · cases hc3
    repeat (first | refine VO_d ?_ | refine VQ_d ?_ | (first | refine VO_q (Q_index rfl rfl TE.h TI.h (by omega) hget) rfl ?_ | refine VQ_q (Q_index rfl rfl TE.h TI.h (by omega) hget) rfl ?_ | (refine VO_bare rfl rfl rfl rfl ?_; refine VO_q (Q_index rfl rfl TE.h TI.h (by omega) hget) rfl ?_) | refine VQ_run rfl rfl rfl rfl (Q_index rfl rfl TE.h TI.h (by omega) hget) rfl ?_) | (first | refine VO_q (Q_index rfl rfl TE.h TI.h (by omega) hgev) rfl ?_ | refine VQ_q (Q_index rfl rfl TE.h TI.h (by omega) hgev) rfl ?_ | (refine VO_bare rfl rfl rfl rfl ?_; refine VO_q (Q_index rfl rfl TE.h TI.h (by omega) hgev) rfl ?_) | refine VQ_run rfl rfl rfl rfl (Q_index rfl rfl TE.h TI.h (by omega) hgev) rfl ?_) | (first | refine VO_q (Q_call rfl hc_1 (by repeat (first | exact trivial | exact rfl | exact ⟨_, rfl⟩ | refine And.intro ?_ ?_))) rfl ?_ | refine VQ_q (Q_call rfl hc_1 (by repeat (first | exact trivial | exact rfl | exact ⟨_, rfl⟩ | refine And.intro ?_ ?_))) rfl ?_ | (refine VO_bare rfl rfl rfl rfl ?_; refine VO_q (Q_call rfl hc_1 (by repeat (first | exact trivial | exact rfl | exact ⟨_, rfl⟩ | refine And.intro ?_ ?_))) rfl ?_) | refine VQ_run rfl rfl rfl rfl (Q_call rfl hc_1 (by repeat (first | exact trivial | exact rfl | exact ⟨_, rfl⟩ | refine And.intro ?_ ?_))) rfl ?_) | (first | refine VO_q (Q_load rfl TI.h (wt_isSt xx_2) (wt_sz _ _ xx_2)) rfl ?_ | refine VQ_q (Q_load rfl TI.h (wt_isSt xx_2) (wt_sz _ _ xx_2)) rfl ?_ | (refine VO_bare rfl rfl rfl rfl ?_; refine VO_q (Q_load rfl TI.h (wt_isSt xx_2) (wt_sz _ _ xx_2)) rfl ?_) | refine VQ_run rfl rfl rfl rfl (Q_load rfl TI.h (wt_isSt xx_2) (wt_sz _ _ xx_2)) rfl ?_) | (first | refine VO_q (Q_load rfl TI.h (wt_isSt ww_2) (wt_sz _ _ ww_2)) rfl ?_ | refine VQ_q (Q_load rfl TI.h (wt_isSt ww_2) (wt_sz _ _ ww_2)) rfl ?_ | (refine VO_bare rfl rfl rfl rfl ?_; refine VO_q (Q_load rfl TI.h (wt_isSt ww_2) (wt_sz _ _ ww_2)) rfl ?_) | refine VQ_run rfl rfl rfl rfl (Q_load rfl TI.h (wt_isSt ww_2) (wt_sz _ _ ww_2)) rfl ?_) | (first | refine VO_q (Q_call rfl hc_2 (by repeat (first | exact trivial | exact rfl | exact ⟨_, rfl⟩ | refine And.intro ?_ ?_))) rfl ?_ | refine VQ_q (Q_call rfl hc_2 (by repeat (first | exact trivial | exact rfl | exact ⟨_, rfl⟩ | refine And.intro ?_ ?_))) rfl ?_ | (refine VO_bare rfl rfl rfl rfl ?_; refine VO_q (Q_call rfl hc_2 (by repeat (first | exact trivial | exact rfl | exact ⟨_, rfl⟩ | refine And.intro ?_ ?_))) rfl ?_) | refine VQ_run rfl rfl rfl rfl (Q_call rfl hc_2 (by repeat (first | exact trivial | exact rfl | exact ⟨_, rfl⟩ | refine And.intro ?_ ?_))) rfl ?_))
    cases r_1
    · skip
      repeat (first | refine VO_d ?_ | refine VQ_d ?_ | (first | refine VO_q (Q_index rfl rfl TE.h TI.h (by omega) hget) rfl ?_ | refine VQ_q (Q_index rfl rfl TE.h TI.h (by omega) hget) rfl ?_ | (refine VO_bare rfl rfl rfl rfl ?_; refine VO_q (Q_index rfl rfl TE.h TI.h (by omega) hget) rfl ?_) | refine VQ_run rfl rfl rfl rfl (Q_index rfl rfl TE.h TI.h (by omega) hget) rfl ?_) | (first | refine VO_q (Q_index rfl rfl TE.h TI.h (by omega) hgev) rfl ?_ | refine VQ_q (Q_index rfl rfl TE.h TI.h (by omega) hgev) rfl ?_ | (refine VO_bare rfl rfl rfl rfl ?_; refine VO_q (Q_index rfl rfl TE.h TI.h (by omega) hgev) rfl ?_) | refine VQ_run rfl rfl rfl rfl (Q_index rfl rfl TE.h TI.h (by omega) hgev) rfl ?_) | (first | refine VO_q (Q_call rfl hc_1 (by repeat (first | exact trivial | exact rfl | exact ⟨_, rfl⟩ | refine And.intro ?_ ?_))) rfl ?_ | refine VQ_q (Q_call rfl hc_1 (by repeat (first | exact trivial | exact rfl | exact ⟨_, rfl⟩ | refine And.intro ?_ ?_))) rfl ?_ | (refine VO_bare rfl rfl rfl rfl ?_; refine VO_q (Q_call rfl hc_1 (by repeat (first | exact trivial | exact rfl | exact ⟨_, rfl⟩ | refine And.intro ?_ ?_))) rfl ?_) | refine VQ_run rfl rfl rfl rfl (Q_call rfl hc_1 (by repeat (first | exact trivial | exact rfl | exact ⟨_, rfl⟩ | refine And.intro ?_ ?_))) rfl ?_) | (first | refine VO_q (Q_load rfl TI.h (wt_isSt xx_2) (wt_sz _ _ xx_2)) rfl ?_ | refine VQ_q (Q_load rfl TI.h (wt_isSt xx_2) (wt_sz _ _ xx_2)) rfl ?_ | (refine VO_bare rfl rfl rfl rfl ?_; refine VO_q (Q_load rfl TI.h (wt_isSt xx_2) (wt_sz _ _ xx_2)) rfl ?_) | refine VQ_run rfl rfl rfl rfl (Q_load rfl TI.h (wt_isSt xx_2) (wt_sz _ _ xx_2)) rfl ?_) | (first | refine VO_q (Q_load rfl TI.h (wt_isSt ww_2) (wt_sz _ _ ww_2)) rfl ?_ | refine VQ_q (Q_load rfl TI.h (wt_isSt ww_2) (wt_sz _ _ ww_2)) rfl ?_ | (refine VO_bare rfl rfl rfl rfl ?_; refine VO_q (Q_load rfl TI.h (wt_isSt ww_2) (wt_sz _ _ ww_2)) rfl ?_) | refine VQ_run rfl rfl rfl rfl (Q_load rfl TI.h (wt_isSt ww_2) (wt_sz _ _ ww_2)) rfl ?_) | (first | refine VO_q (Q_call rfl hc_2 (by repeat (first | exact trivial | exact rfl | exact ⟨_, rfl⟩ | refine And.intro ?_ ?_))) rfl ?_ | refine VQ_q (Q_call rfl hc_2 (by repeat (first | exact trivial | exact rfl | exact ⟨_, rfl⟩ | refine And.intro ?_ ?_))) rfl ?_ | (refine VO_bare rfl rfl rfl rfl ?_; refine VO_q (Q_call rfl hc_2 (by repeat (first | exact trivial | exact rfl | exact ⟨_, rfl⟩ | refine And.intro ?_ ?_))) rfl ?_) | refine VQ_run rfl rfl rfl rfl (Q_call rfl hc_2 (by repeat (first | exact trivial | exact rfl | exact ⟨_, rfl⟩ | refine And.intro ?_ ?_))) rfl ?_))
      (first | refine VO_nil ?_ | refine VQ_nil ?_)
      (first | refine V_cond rfl (fun hc3 => ?_) (fun hc3 => ?_) | refine V_seq (V_cond rfl (fun hc3 => ?_) (fun hc3 => ?_)))
      · skip
        (first | refine V_seq_region ?_ | refine V_seq (V_seq_region ?_) | refine V_seq_draw tmix (by kernel_rfl) ?_ | refine V_seq (V_seq_draw tmix (by kernel_rfl) ?_) | refine V_region ?_ | refine V_draw tmix (by kernel_rfl) ?_)
        repeat refine VO_d ?_
        (first | refine VO_nil ?_ | refine VQ_nil ?_)
        refine V_ret ?_
        exact ⟨trivial, ⟨_, rfl, congrArg U.b (deq_false.2 (by intro h; cases h; rw [hget] at hgev; cases hgev; simp [deq_self] at s_1)).symm⟩, trivial⟩
      · cases hc3
    repeat (first | refine VO_d ?_ | refine VQ_d ?_ | (first | refine VO_q (Q_index rfl rfl TE.h TI.h (by omega) hget) rfl ?_ | refine VQ_q (Q_index rfl rfl TE.h TI.h (by omega) hget) rfl ?_ | (refine VO_bare rfl rfl rfl rfl ?_; refine VO_q (Q_index rfl rfl TE.h TI.h (by omega) hget) rfl ?_) | refine VQ_run rfl rfl rfl rfl (Q_index rfl rfl TE.h TI.h (by omega) hget) rfl ?_) | (first | refine VO_q (Q_index rfl rfl TE.h TI.h (by omega) hgev) rfl ?_ | refine VQ_q (Q_index rfl rfl TE.h TI.h (by omega) hgev) rfl ?_ | (refine VO_bare rfl rfl rfl rfl ?_; refine VO_q (Q_index rfl rfl TE.h TI.h (by omega) hgev) rfl ?_) | refine VQ_run rfl rfl rfl rfl (Q_index rfl rfl TE.h TI.h (by omega) hgev) rfl ?_) | (first | refine VO_q (Q_call rfl hc_1 (by repeat (first | exact trivial | exact rfl | exact ⟨_, rfl⟩ | refine And.intro ?_ ?_))) rfl ?_ | refine VQ_q (Q_call rfl hc_1 (by repeat (first | exact trivial | exact rfl | exact ⟨_, rfl⟩ | refine And.intro ?_ ?_))) rfl ?_ | (refine VO_bare rfl rfl rfl rfl ?_; refine VO_q (Q_call rfl hc_1 (by repeat (first | exact trivial | exact rfl | exact ⟨_, rfl⟩ | refine And.intro ?_ ?_))) rfl ?_) | refine VQ_run rfl rfl rfl rfl (Q_call rfl hc_1 (by repeat (first | exact trivial | exact rfl | exact ⟨_, rfl⟩ | refine And.intro ?_ ?_))) rfl ?_) | (first | refine VO_q (Q_load rfl TI.h (wt_isSt xx_2) (wt_sz _ _ xx_2)) rfl ?_ | refine VQ_q (Q_load rfl TI.h (wt_isSt xx_2) (wt_sz _ _ xx_2)) rfl ?_ | (refine VO_bare rfl rfl rfl rfl ?_; refine VO_q (Q_load rfl TI.h (wt_isSt xx_2) (wt_sz _ _ xx_2)) rfl ?_) | refine VQ_run rfl rfl rfl rfl (Q_load rfl TI.h (wt_isSt xx_2) (wt_sz _ _ xx_2)) rfl ?_) | (first | refine VO_q (Q_load rfl TI.h (wt_isSt ww_2) (wt_sz _ _ ww_2)) rfl ?_ | refine VQ_q (Q_load rfl TI.h (wt_isSt ww_2) (wt_sz _ _ ww_2)) rfl ?_ | (refine VO_bare rfl rfl rfl rfl ?_; refine VO_q (Q_load rfl TI.h (wt_isSt ww_2) (wt_sz _ _ ww_2)) rfl ?_) | refine VQ_run rfl rfl rfl rfl (Q_load rfl TI.h (wt_isSt ww_2) (wt_sz _ _ ww_2)) rfl ?_) | (first | refine VO_q (Q_call rfl hc_2 (by repeat (first | exact trivial | exact rfl | exact ⟨_, rfl⟩ | refine And.intro ?_ ?_))) rfl ?_ | refine VQ_q (Q_call rfl hc_2 (by repeat (first | exact trivial | exact rfl | exact ⟨_, rfl⟩ | refine And.intro ?_ ?_))) rfl ?_ | (refine VO_bare rfl rfl rfl rfl ?_; refine VO_q (Q_call rfl hc_2 (by repeat (first | exact trivial | exact rfl | exact ⟨_, rfl⟩ | refine And.intro ?_ ?_))) rfl ?_) | refine VQ_run rfl rfl rfl rfl (Q_call rfl hc_2 (by repeat (first | exact trivial | exact rfl | exact ⟨_, rfl⟩ | refine And.intro ?_ ?_))) rfl ?_))
    cases r_2
    · skip
      repeat (first | refine VO_d ?_ | refine VQ_d ?_ | (first | refine VO_q (Q_index rfl rfl TE.h TI.h (by omega) hget) rfl ?_ | refine VQ_q (Q_index rfl rfl TE.h TI.h (by omega) hget) rfl ?_ | (refine VO_bare rfl rfl rfl rfl ?_; refine VO_q (Q_index rfl rfl TE.h TI.h (by omega) hget) rfl ?_) | refine VQ_run rfl rfl rfl rfl (Q_index rfl rfl TE.h TI.h (by omega) hget) rfl ?_) | (first | refine VO_q (Q_index rfl rfl TE.h TI.h (by omega) hgev) rfl ?_ | refine VQ_q (Q_index rfl rfl TE.h TI.h (by omega) hgev) rfl ?_ | (refine VO_bare rfl rfl rfl rfl ?_; refine VO_q (Q_index rfl rfl TE.h TI.h (by omega) hgev) rfl ?_) | refine VQ_run rfl rfl rfl rfl (Q_index rfl rfl TE.h TI.h (by omega) hgev) rfl ?_) | (first | refine VO_q (Q_call rfl hc_1 (by repeat (first | exact trivial | exact rfl | exact ⟨_, rfl⟩ | refine And.intro ?_ ?_))) rfl ?_ | refine VQ_q (Q_call rfl hc_1 (by repeat (first | exact trivial | exact rfl | exact ⟨_, rfl⟩ | refine And.intro ?_ ?_))) rfl ?_ | (refine VO_bare rfl rfl rfl rfl ?_; refine VO_q (Q_call rfl hc_1 (by repeat (first | exact trivial | exact rfl | exact ⟨_, rfl⟩ | refine And.intro ?_ ?_))) rfl ?_) | refine VQ_run rfl rfl rfl rfl (Q_call rfl hc_1 (by repeat (first | exact trivial | exact rfl | exact ⟨_, rfl⟩ | refine And.intro ?_ ?_))) rfl ?_) | (first | refine VO_q (Q_load rfl TI.h (wt_isSt xx_2) (wt_sz _ _ xx_2)) rfl ?_ | refine VQ_q (Q_load rfl TI.h (wt_isSt xx_2) (wt_sz _ _ xx_2)) rfl ?_ | (refine VO_bare rfl rfl rfl rfl ?_; refine VO_q (Q_load rfl TI.h (wt_isSt xx_2) (wt_sz _ _ xx_2)) rfl ?_) | refine VQ_run rfl rfl rfl rfl (Q_load rfl TI.h (wt_isSt xx_2) (wt_sz _ _ xx_2)) rfl ?_) | (first | refine VO_q (Q_load rfl TI.h (wt_isSt ww_2) (wt_sz _ _ ww_2)) rfl ?_ | refine VQ_q (Q_load rfl TI.h (wt_isSt ww_2) (wt_sz _ _ ww_2)) rfl ?_ | (refine VO_bare rfl rfl rfl rfl ?_; refine VO_q (Q_load rfl TI.h (wt_isSt ww_2) (wt_sz _ _ ww_2)) rfl ?_) | refine VQ_run rfl rfl rfl rfl (Q_load rfl TI.h (wt_isSt ww_2) (wt_sz _ _ ww_2)) rfl ?_) | (first | refine VO_q (Q_call rfl hc_2 (by repeat (first | exact trivial | exact rfl | exact ⟨_, rfl⟩ | refine And.intro ?_ ?_))) rfl ?_ | refine VQ_q (Q_call rfl hc_2 (by repeat (first | exact trivial | exact rfl | exact ⟨_, rfl⟩ | refine And.intro ?_ ?_))) rfl ?_ | (refine VO_bare rfl rfl rfl rfl ?_; refine VO_q (Q_call rfl hc_2 (by repeat (first | exact trivial | exact rfl | exact ⟨_, rfl⟩ | refine And.intro ?_ ?_))) rfl ?_) | refine VQ_run rfl rfl rfl rfl (Q_call rfl hc_2 (by repeat (first | exact trivial | exact rfl | exact ⟨_, rfl⟩ | refine And.intro ?_ ?_))) rfl ?_))
      (first | refine VO_nil ?_ | refine VQ_nil ?_)
      (first | refine V_cond rfl (fun hc3 => ?_) (fun hc3 => ?_) | refine V_seq (V_cond rfl (fun hc3 => ?_) (fun hc3 => ?_)))
      · skip
        (first | refine V_seq_region ?_ | refine V_seq (V_seq_region ?_) | refine V_seq_draw tmix (by kernel_rfl) ?_ | refine V_seq (V_seq_draw tmix (by kernel_rfl) ?_) | refine V_region ?_ | refine V_draw tmix (by kernel_rfl) ?_)
        repeat refine VO_d ?_
        (first | refine VO_nil ?_ | refine VQ_nil ?_)
        refine V_ret ?_
        exact ⟨trivial, ⟨_, rfl, congrArg U.b (deq_false.2 (by intro h; cases h; rw [hget] at hgev; cases hgev; simp [deq_self] at s_2)).symm⟩, trivial⟩
      · cases hc3
    repeat (first | refine VO_d ?_ | refine VQ_d ?_ | (first | refine VO_q (Q_index rfl rfl TE.h TI.h (by omega) hget) rfl ?_ | refine VQ_q (Q_index rfl rfl TE.h TI.h (by omega) hget) rfl ?_ | (refine VO_bare rfl rfl rfl rfl ?_; refine VO_q (Q_index rfl rfl TE.h TI.h (by omega) hget) rfl ?_) | refine VQ_run rfl rfl rfl rfl (Q_index rfl rfl TE.h TI.h (by omega) hget) rfl ?_) | (first | refine VO_q (Q_index rfl rfl TE.h TI.h (by omega) hgev) rfl ?_ | refine VQ_q (Q_index rfl rfl TE.h TI.h (by omega) hgev) rfl ?_ | (refine VO_bare rfl rfl rfl rfl ?_; refine VO_q (Q_index rfl rfl TE.h TI.h (by omega) hgev) rfl ?_) | refine VQ_run rfl rfl rfl rfl (Q_index rfl rfl TE.h TI.h (by omega) hgev) rfl ?_) | (first | refine VO_q (Q_call rfl hc_1 (by repeat (first | exact trivial | exact rfl | exact ⟨_, rfl⟩ | refine And.intro ?_ ?_))) rfl ?_ | refine VQ_q (Q_call rfl hc_1 (by repeat (first | exact trivial | exact rfl | exact ⟨_, rfl⟩ | refine And.intro ?_ ?_))) rfl ?_ | (refine VO_bare rfl rfl rfl rfl ?_; refine VO_q (Q_call rfl hc_1 (by repeat (first | exact trivial | exact rfl | exact ⟨_, rfl⟩ | refine And.intro ?_ ?_))) rfl ?_) | refine VQ_run rfl rfl rfl rfl (Q_call rfl hc_1 (by repeat (first | exact trivial | exact rfl | exact ⟨_, rfl⟩ | refine And.intro ?_ ?_))) rfl ?_) | (first | refine VO_q (Q_load rfl TI.h (wt_isSt xx_2) (wt_sz _ _ xx_2)) rfl ?_ | refine VQ_q (Q_load rfl TI.h (wt_isSt xx_2) (wt_sz _ _ xx_2)) rfl ?_ | (refine VO_bare rfl rfl rfl rfl ?_; refine VO_q (Q_load rfl TI.h (wt_isSt xx_2) (wt_sz _ _ xx_2)) rfl ?_) | refine VQ_run rfl rfl rfl rfl (Q_load rfl TI.h (wt_isSt xx_2) (wt_sz _ _ xx_2)) rfl ?_) | (first | refine VO_q (Q_load rfl TI.h (wt_isSt ww_2) (wt_sz _ _ ww_2)) rfl ?_ | refine VQ_q (Q_load rfl TI.h (wt_isSt ww_2) (wt_sz _ _ ww_2)) rfl ?_ | (refine VO_bare rfl rfl rfl rfl ?_; refine VO_q (Q_load rfl TI.h (wt_isSt ww_2) (wt_sz _ _ ww_2)) rfl ?_) | refine VQ_run rfl rfl rfl rfl (Q_load rfl TI.h (wt_isSt ww_2) (wt_sz _ _ ww_2)) rfl ?_) | (first | refine VO_q (Q_call rfl hc_2 (by repeat (first | exact trivial | exact rfl | exact ⟨_, rfl⟩ | refine And.intro ?_ ?_))) rfl ?_ | refine VQ_q (Q_call rfl hc_2 (by repeat (first | exact trivial | exact rfl | exact ⟨_, rfl⟩ | refine And.intro ?_ ?_))) rfl ?_ | (refine VO_bare rfl rfl rfl rfl ?_; refine VO_q (Q_call rfl hc_2 (by repeat (first | exact trivial | exact rfl | exact ⟨_, rfl⟩ | refine And.intro ?_ ?_))) rfl ?_) | refine VQ_run rfl rfl rfl rfl (Q_call rfl hc_2 (by repeat (first | exact trivial | exact rfl | exact ⟨_, rfl⟩ | refine And.intro ?_ ?_))) rfl ?_))
    (first | refine VO_nil ?_ | refine VQ_nil ?_)
    (first | refine V_cond rfl (fun hc3 => ?_) (fun hc3 => ?_) | refine V_seq (V_cond rfl (fun hc3 => ?_) (fun hc3 => ?_)))
    · cases hc3
    refine V_skip ?_
    have heq : U.st [.s x0, .sl 1 x1, x2] = U.st [.s w0, .sl 1 w1, w2] := by rw [(by simpa using k_0 : x0 = w0), deq_true.1 s_1, deq_true.1 s_2]
    (first | refine V_seq_region ?_ | refine V_seq (V_seq_region ?_) | refine V_seq_draw tmix (by kernel_rfl) ?_ | refine V_seq (V_seq_draw tmix (by kernel_rfl) ?_) | refine V_region ?_ | refine V_draw tmix (by kernel_rfl) ?_)
    repeat refine VO_d ?_
    (first | refine VO_nil ?_ | refine VQ_nil ?_)
    refine ⟨k + 1, ⟨by omega, fun j hj => ?_⟩, by omega, ⟨rfl, ⟨⟨rfl, rfl⟩, ⟨rfl, rfl⟩, ⟨rfl, rfl⟩, trivial⟩, ⟨[], rfl⟩, rfl⟩⟩
    by_cases hjk : j = k
    · subst hjk; rw [hget, hgev, heq]
    · exact hsame j (by omega)
  refine V_exit ?_
  simp only [decide_eq_false_iff_not] at hc2
  have hkl : k = f8.length := by omega
  subst hkl
  have hall8 : f8 = d8 := by
    apply List.ext_getElem?
    intro j
    by_cases hj : j < f8.length
    · exact hsame j hj
    · rw [List.getElem?_eq_none (by omega), List.getElem?_eq_none (by omega)]
  show V _ _ _ _ _
  clear hsame hc2 hk
  (first | refine V_seq_region ?_ | refine V_seq (V_seq_region ?_) | refine V_seq_draw tmix (by kernel_rfl) ?_ | refine V_seq (V_seq_draw tmix (by kernel_rfl) ?_) | refine V_region ?_ | refine V_draw tmix (by kernel_rfl) ?_)
  repeat refine VO_d ?_
  (first | refine VO_nil ?_ | refine VQ_nil ?_)
  refine V_ret ?_
  exact ⟨trivial, ⟨_, rfl, congrArg U.b (deq_true.2 (by rw [e0, e1, e2, e3, deq_true.1 s4, deq_true.1 s5, deq_true.1 s6, hall7, hall8])).symm⟩, trivial⟩

theorem specEqualCore (u : U) : wt (.st 21) u → ∀ v, wt (.st 21) v → PEq 45 u v := by
  refine U.ind (M := fun u => wt (.st 21) u → ∀ v, wt (.st 21) v → PEq 45 u v) (fun u ih h v h2 => ?_) u
  obtain ⟨f0, f1, f2, f3, f4, f5, f6, f7, f8, rfl, p0, p1, p2, p3, p4, p5, p6, p7, p8⟩ := inv_Core h
  obtain ⟨d0, d1, d2, d3, d4, d5, d6, d7, d8, rfl, q0, q1, q2, q3, q4, q5, q6, q7, q8⟩ := inv_Core h2
  exact specCore_step p4 q4 (specEqualType f4 p4 d4 q4) (specTypes_step p5.1 q5.1 (fun a ha => ⟨wt_isSt (p5.2 a ha), by rw [wt_sz a _ (p5.2 a ha)]; rfl⟩) (fun a ha => ⟨wt_isSt (q5.2 a ha), by rw [wt_sz a _ (q5.2 a ha)]; rfl⟩) (fun a ha b hb => specEqualType a (p5.2 a ha) b (q5.2 b hb))) (specEvidences_step p6.1 q6.1 (fun a ha => ⟨wt_isSt (p6.2 a ha), by rw [wt_sz a _ (p6.2 a ha)]; rfl⟩) (fun a ha => ⟨wt_isSt (q6.2 a ha), by rw [wt_sz a _ (q6.2 a ha)]; rfl⟩) (fun a ha b hb => specEqualEvidence a (p6.2 a ha) b (q6.2 b hb))) p7.1 q7.1 p7.2 q7.2 (fun a ha b hb => ih a (by have := nn_of_mem ha; simp only [U.nn, U.nns]; omega) (p7.2 a ha) b (q7.2 b hb)) p8.1 q8.1 p8.2 q8.2 (fun x0 x1 x2 w0 w1 w2 ha hb => by obtain ⟨_, _, _, hx, _, y1, _⟩ := inv_CoreArm (p8.2 _ ha); cases hx; obtain ⟨_, _, _, hx, _, v1, _⟩ := inv_CoreArm (q8.2 _ hb); cases hx; exact specTexts_step y1.1 v1.1 (fun a ha => inv_str (y1.2 a ha)) (fun a ha => inv_str (v1.2 a ha))) (fun x0 x1 x2 w0 w1 w2 ha hb => by obtain ⟨_, _, _, hx, _, _, y2⟩ := inv_CoreArm (p8.2 _ ha); cases hx; obtain ⟨_, _, _, hx, _, _, v2⟩ := inv_CoreArm (q8.2 _ hb); cases hx; exact ih x2 (by have := nn_of_mem ha; simp only [U.nn, U.nns] at this ⊢; omega) y2 w2 v2)

end Go.Proofs.Ytbhigchfphnkhaa
