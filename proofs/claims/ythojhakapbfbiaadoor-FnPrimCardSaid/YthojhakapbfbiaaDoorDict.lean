/- EqualDictionary, EqualValue. -/
import Derived.Test.YthojhakapbfbiaaDoorFamV
set_option linter.unusedVariables false
set_option linter.unusedSimpArgs false
namespace Go.Proofs.YthojhakapbfbiaaDoor
open Go Go.Eng
attribute [local irreducible] V VO VQ Quiet SpecP

theorem slicesEqual_int {us vs : List U} (h : us.length ≤ big ∧ ∀ x ∈ us, wt .int x) (h2 : vs.length ≤ big ∧ ∀ x ∈ vs, wt .int x) : PEq 92 (.sl 1 us) (.sl 1 vs) := by
  obtain ⟨hb1, hz⟩ := h
  obtain ⟨hb2, hz2⟩ := h2
  rw [big_eq] at hb1 hb2
  refine SpecP_intro Tryd.func92 rfl (by kernel_rfl) rfl fun A _ => ?_
  (first | refine V_seq_region ?_ | refine V_seq (V_seq_region ?_) | refine V_seq_draw tmix (by kernel_rfl) ?_ | refine V_seq (V_seq_draw tmix (by kernel_rfl) ?_) | refine V_region ?_ | refine V_draw tmix (by kernel_rfl) ?_)
  repeat refine VO_d ?_
  (first | refine VO_nil ?_ | refine VQ_nil ?_)
  (first | refine V_seq_region ?_ | refine V_seq (V_seq_region ?_) | refine V_seq_draw tmix (by kernel_rfl) ?_ | refine V_seq (V_seq_draw tmix (by kernel_rfl) ?_) | refine V_region ?_ | refine V_draw tmix (by kernel_rfl) ?_)
  repeat refine VO_d ?_
  (first | refine VO_nil ?_ | refine VQ_nil ?_)
  (first | refine V_cond rfl (fun hc => ?_) (fun hc => ?_) | refine V_seq (V_cond rfl (fun hc => ?_) (fun hc => ?_)))
  · (first | refine V_seq_region ?_ | refine V_seq (V_seq_region ?_) | refine V_seq_draw tmix (by kernel_rfl) ?_ | refine V_seq (V_seq_draw tmix (by kernel_rfl) ?_) | refine V_region ?_ | refine V_draw tmix (by kernel_rfl) ?_)
    repeat refine VO_d ?_
    (first | refine VO_nil ?_ | refine VQ_nil ?_)
    refine V_ret ?_
    exact ⟨trivial, ⟨_, rfl, congrArg U.b (deq_false.2 (by intro h; injection h with _ h; subst h; simp at hc)).symm⟩, trivial⟩
  refine V_skip ?_
  have hll : us.length = vs.length := by simp at hc; omega
  (first | refine V_seq_region ?_ | refine V_seq (V_seq_region ?_) | refine V_seq_draw tmix (by kernel_rfl) ?_ | refine V_seq (V_seq_draw tmix (by kernel_rfl) ?_) | refine V_region ?_ | refine V_draw tmix (by kernel_rfl) ?_)
  repeat refine VO_d ?_
  (first | refine VO_nil ?_ | refine VQ_nil ?_)
  refine V_block ?_
  refine V_loop (α := Nat)
    (fun k => ⟨[(0, .d (.sl 1 us)), (1, .d (.sl 1 vs)), (12, .d (.i .i64 us.length)), (13, .d (.i .i64 k))], [], Tryd.f92.ntmps⟩)
    (fun k => k ≤ us.length ∧ ∀ j, j < k → us[j]? = vs[j]?)
    (fun k => us.length - k) 0 ⟨rfl, ⟨⟨rfl, rfl⟩, ⟨rfl, rfl⟩, ⟨rfl, rfl⟩, ⟨rfl, rfl⟩, trivial⟩, ⟨[], rfl⟩, rfl⟩ ⟨by simp, by simp⟩ ?_
  rintro k ⟨hk, hsame⟩
  (first | refine V_seq_region ?_ | refine V_seq (V_seq_region ?_) | refine V_seq_draw tmix (by kernel_rfl) ?_ | refine V_seq (V_seq_draw tmix (by kernel_rfl) ?_) | refine V_region ?_ | refine V_draw tmix (by kernel_rfl) ?_)
  repeat refine VO_d ?_
  (first | refine VO_nil ?_ | refine VQ_nil ?_)
  (first | refine V_cond rfl (fun hc2 => ?_) (fun hc2 => ?_) | refine V_seq (V_cond rfl (fun hc2 => ?_) (fun hc2 => ?_)))
  · refine V_skip ?_
    simp only [decide_eq_true_eq] at hc2
    have hkl : k < us.length := by omega
    have hkv : k < vs.length := by omega
    have hget : us[k]? = some us[k] := List.getElem?_eq_getElem hkl
    have hgev : vs[k]? = some vs[k] := List.getElem?_eq_getElem hkv
    obtain ⟨l1, h1, _⟩ := inv_int (hz _ (List.getElem_mem hkl))
    obtain ⟨l2, h2, _⟩ := inv_int (hz2 _ (List.getElem_mem hkv))
    have hg1 : us[k]? = some (.i .i64 l1) := by rw [hget, h1]
    have hg2 : vs[k]? = some (.i .i64 l2) := by rw [hgev, h2]
    refine V_seq (V_block ?_)
    (first | refine V_seq_region ?_ | refine V_seq (V_seq_region ?_) | refine V_seq_draw tmix (by kernel_rfl) ?_ | refine V_seq (V_seq_draw tmix (by kernel_rfl) ?_) | refine V_region ?_ | refine V_draw tmix (by kernel_rfl) ?_)
    repeat refine VO_d ?_
    (first | refine VO_nil ?_ | refine VQ_nil ?_)
    (first | refine V_seq_region ?_ | refine V_seq (V_seq_region ?_) | refine V_seq_draw tmix (by kernel_rfl) ?_ | refine V_seq (V_seq_draw tmix (by kernel_rfl) ?_) | refine V_region ?_ | refine V_draw tmix (by kernel_rfl) ?_)
    repeat (first | refine VO_d ?_ | refine VQ_d ?_)
    (first | refine VO_q (Q_index rfl rfl TE.h TI.h (by omega) hg1) rfl ?_ | refine VQ_q (Q_index rfl rfl TE.h TI.h (by omega) hg1) rfl ?_ | (refine VO_bare rfl rfl rfl rfl ?_; refine VO_q (Q_index rfl rfl TE.h TI.h (by omega) hg1) rfl ?_) | refine VQ_run rfl rfl rfl rfl (Q_index rfl rfl TE.h TI.h (by omega) hg1) rfl ?_)
    repeat (first | refine VO_d ?_ | refine VQ_d ?_)
    (first | refine VO_q (Q_index rfl rfl TE.h TI.h (by omega) hg2) rfl ?_ | refine VQ_q (Q_index rfl rfl TE.h TI.h (by omega) hg2) rfl ?_ | (refine VO_bare rfl rfl rfl rfl ?_; refine VO_q (Q_index rfl rfl TE.h TI.h (by omega) hg2) rfl ?_) | refine VQ_run rfl rfl rfl rfl (Q_index rfl rfl TE.h TI.h (by omega) hg2) rfl ?_)
    repeat (first | refine VO_d ?_ | refine VQ_d ?_)
    (first | refine VO_nil ?_ | refine VQ_nil ?_)
    (first | refine V_cond rfl (fun hc3 => ?_) (fun hc3 => ?_) | refine V_seq (V_cond rfl (fun hc3 => ?_) (fun hc3 => ?_)))
    · (first | refine V_seq_region ?_ | refine V_seq (V_seq_region ?_) | refine V_seq_draw tmix (by kernel_rfl) ?_ | refine V_seq (V_seq_draw tmix (by kernel_rfl) ?_) | refine V_region ?_ | refine V_draw tmix (by kernel_rfl) ?_)
      repeat refine VO_d ?_
      (first | refine VO_nil ?_ | refine VQ_nil ?_)
      refine V_ret ?_
      exact ⟨trivial, ⟨_, rfl, congrArg U.b (deq_false.2 (by intro h; injection h with _ h; subst h; rw [hg1] at hg2; injection hg2 with hg2; injection hg2; simp_all)).symm⟩, trivial⟩
    refine V_skip ?_
    have heq : us[k] = vs[k] := by rw [h1, h2]; simp at hc3; rw [hc3]
    (first | refine V_seq_region ?_ | refine V_seq (V_seq_region ?_) | refine V_seq_draw tmix (by kernel_rfl) ?_ | refine V_seq (V_seq_draw tmix (by kernel_rfl) ?_) | refine V_region ?_ | refine V_draw tmix (by kernel_rfl) ?_)
    repeat refine VO_d ?_
    (first | refine VO_nil ?_ | refine VQ_nil ?_)
    refine ⟨k + 1, ⟨by omega, fun j hj => ?_⟩, by omega, ⟨rfl, ⟨⟨rfl, rfl⟩, ⟨rfl, rfl⟩, ⟨rfl, rfl⟩, ⟨rfl, rfl⟩, trivial⟩, ⟨[], rfl⟩, rfl⟩⟩
    by_cases hjk : j = k
    · subst hjk; rw [hget, hgev, heq]
    · exact hsame j (by omega)
  · refine V_exit ?_
    simp only [decide_eq_false_iff_not] at hc2
    have hkl : k = us.length := by omega
    subst hkl
    have hall : us = vs := by
      apply List.ext_getElem?
      intro j
      by_cases hj : j < us.length
      · exact hsame j hj
      · rw [List.getElem?_eq_none (by omega), List.getElem?_eq_none (by omega)]
    show V _ _ _ _ _
    (first | refine V_seq_region ?_ | refine V_seq (V_seq_region ?_) | refine V_seq_draw tmix (by kernel_rfl) ?_ | refine V_seq (V_seq_draw tmix (by kernel_rfl) ?_) | refine V_region ?_ | refine V_draw tmix (by kernel_rfl) ?_)
    repeat refine VO_d ?_
    (first | refine VO_nil ?_ | refine VQ_nil ?_)
    refine V_ret ?_
    exact ⟨trivial, ⟨_, rfl, congrArg U.b (deq_true.2 (by rw [hall])).symm⟩, trivial⟩

set_option maxHeartbeats 4000000 in
theorem equalFunc_Dictionary {fi : Nat} {us vs : List U} (hb1 : us.length ≤ big) (hb2 : vs.length ≤ big) (hw : ∀ a ∈ us, wt (.st 26) a) (hw2 : ∀ a ∈ vs, wt (.st 26) a) (ih : ∀ a ∈ us, ∀ b ∈ vs, PEq fi a b) :
    SpecP Tryd.prog 93 [.d (.sl 5 us), .d (.sl 5 vs), .fn fi []] [.b (deq (.sl 5 us) (.sl 5 vs))] := by
  rw [big_eq] at hb1 hb2
  refine SpecP_intro Tryd.func93 rfl (by kernel_rfl) rfl fun A _ => ?_
  (first | refine V_seq_region ?_ | refine V_seq (V_seq_region ?_) | refine V_seq_draw tmix (by kernel_rfl) ?_ | refine V_seq (V_seq_draw tmix (by kernel_rfl) ?_) | refine V_region ?_ | refine V_draw tmix (by kernel_rfl) ?_)
  repeat refine VO_d ?_
  (first | refine VO_nil ?_ | refine VQ_nil ?_)
  (first | refine V_seq_region ?_ | refine V_seq (V_seq_region ?_) | refine V_seq_draw tmix (by kernel_rfl) ?_ | refine V_seq (V_seq_draw tmix (by kernel_rfl) ?_) | refine V_region ?_ | refine V_draw tmix (by kernel_rfl) ?_)
  repeat refine VO_d ?_
  (first | refine VO_nil ?_ | refine VQ_nil ?_)
  (first | refine V_cond rfl (fun hc => ?_) (fun hc => ?_) | refine V_seq (V_cond rfl (fun hc => ?_) (fun hc => ?_)))
  · (first | refine V_seq_region ?_ | refine V_seq (V_seq_region ?_) | refine V_seq_draw tmix (by kernel_rfl) ?_ | refine V_seq (V_seq_draw tmix (by kernel_rfl) ?_) | refine V_region ?_ | refine V_draw tmix (by kernel_rfl) ?_)
    repeat refine VO_d ?_
    (first | refine VO_nil ?_ | refine VQ_nil ?_)
    refine V_ret ?_
    exact ⟨trivial, ⟨_, rfl, congrArg U.b (deq_false.2 (by intro h; injection h with _ h; subst h; simp at hc)).symm⟩, trivial⟩
  refine V_skip ?_
  have hll : us.length = vs.length := by simp at hc; omega
  (first | refine V_seq_region ?_ | refine V_seq (V_seq_region ?_) | refine V_seq_draw tmix (by kernel_rfl) ?_ | refine V_seq (V_seq_draw tmix (by kernel_rfl) ?_) | refine V_region ?_ | refine V_draw tmix (by kernel_rfl) ?_)
  repeat refine VO_d ?_
  (first | refine VO_nil ?_ | refine VQ_nil ?_)
  refine V_block ?_
  refine V_loop (α := Nat)
    (fun k => ⟨[(0, .d (.sl 5 us)), (1, .d (.sl 5 vs)), (2, .fn fi []), (15, .d (.sl 5 us)), (16, .d (.i .i64 us.length)), (17, .d (.i .i64 k))], [], Tryd.f93.ntmps⟩)
    (fun k => k ≤ us.length ∧ ∀ j, j < k → us[j]? = vs[j]?)
    (fun k => us.length - k) 0 ⟨rfl, ⟨⟨rfl, rfl⟩, ⟨rfl, rfl⟩, ⟨rfl, rfl⟩, ⟨rfl, rfl⟩, ⟨rfl, rfl⟩, ⟨rfl, rfl⟩, trivial⟩, ⟨[], rfl⟩, rfl⟩ ⟨by simp, by simp⟩ ?_
  rintro k ⟨hk, hsame⟩
  (first | refine V_seq_region ?_ | refine V_seq (V_seq_region ?_) | refine V_seq_draw tmix (by kernel_rfl) ?_ | refine V_seq (V_seq_draw tmix (by kernel_rfl) ?_) | refine V_region ?_ | refine V_draw tmix (by kernel_rfl) ?_)
  repeat refine VO_d ?_
  (first | refine VO_nil ?_ | refine VQ_nil ?_)
  (first | refine V_cond rfl (fun hc2 => ?_) (fun hc2 => ?_) | refine V_seq (V_cond rfl (fun hc2 => ?_) (fun hc2 => ?_)))
  · refine V_skip ?_
    simp only [decide_eq_true_eq] at hc2
    obtain ⟨a, hget⟩ : ∃ a, us[k]? = some a := ⟨_, List.getElem?_eq_getElem (by omega)⟩
    obtain ⟨b, hgev⟩ : ∃ b, vs[k]? = some b := ⟨_, List.getElem?_eq_getElem (by omega)⟩
    have hmem := List.mem_of_getElem? hget
    have hmev := List.mem_of_getElem? hgev
    have hcall := ih _ hmem _ hmev
    have heq' : deq a b = true → us[k]? = vs[k]? := fun h => by rw [hget, hgev, deq_true.1 h]
    have hne' : deq a b = false → us ≠ vs := fun h h3 => by subst h3; rw [hget] at hgev; injection hgev with hgev; subst hgev; rw [deq_self] at h; cases h
    obtain ⟨e1_0, e1_1, e1_2, e1_3, rfl, g1_0, g1_1, g1_2, g1_3⟩ := inv_Dictionary (hw _ hmem)
    obtain ⟨e2_0, e2_1, rfl, g2_0, g2_1⟩ := inv_InstanceRef g1_1
    obtain ⟨e3_0, e3_1, e3_2, e3_3, rfl, g3_0, g3_1, g3_2, g3_3⟩ := inv_Dictionary (hw2 _ hmev)
    obtain ⟨e4_0, e4_1, rfl, g4_0, g4_1⟩ := inv_InstanceRef g3_1
    refine V_seq (V_block ?_)
    (first | refine V_seq_region ?_ | refine V_seq (V_seq_region ?_) | refine V_seq_draw tmix (by kernel_rfl) ?_ | refine V_seq (V_seq_draw tmix (by kernel_rfl) ?_) | refine V_region ?_ | refine V_draw tmix (by kernel_rfl) ?_)
    repeat (first | refine VO_d ?_ | refine VQ_d ?_)
    (first | refine VO_q (Q_index rfl rfl TE.h TI.h (by omega) hget) rfl ?_ | refine VQ_q (Q_index rfl rfl TE.h TI.h (by omega) hget) rfl ?_ | (refine VO_bare rfl rfl rfl rfl ?_; refine VO_q (Q_index rfl rfl TE.h TI.h (by omega) hget) rfl ?_) | refine VQ_run rfl rfl rfl rfl (Q_index rfl rfl TE.h TI.h (by omega) hget) rfl ?_)
    repeat (first | refine VO_d ?_ | refine VQ_d ?_)
    (first | refine VO_nil ?_ | refine VQ_nil ?_)
    (first | refine V_seq_region ?_ | refine V_seq (V_seq_region ?_) | refine V_seq_draw tmix (by kernel_rfl) ?_ | refine V_seq (V_seq_draw tmix (by kernel_rfl) ?_) | refine V_region ?_ | refine V_draw tmix (by kernel_rfl) ?_)
    repeat (first | refine VO_d ?_ | refine VQ_d ?_)
    (first | refine VO_q (Q_index rfl rfl TE.h TI.h (by omega) hgev) rfl ?_ | refine VQ_q (Q_index rfl rfl TE.h TI.h (by omega) hgev) rfl ?_ | (refine VO_bare rfl rfl rfl rfl ?_; refine VO_q (Q_index rfl rfl TE.h TI.h (by omega) hgev) rfl ?_) | refine VQ_run rfl rfl rfl rfl (Q_index rfl rfl TE.h TI.h (by omega) hgev) rfl ?_)
    repeat (first | refine VO_d ?_ | refine VQ_d ?_)
    (first | refine VO_nil ?_ | refine VQ_nil ?_)
    (first | refine V_seq_region ?_ | refine V_seq (V_seq_region ?_) | refine V_seq_draw tmix (by kernel_rfl) ?_ | refine V_seq (V_seq_draw tmix (by kernel_rfl) ?_) | refine V_region ?_ | refine V_draw tmix (by kernel_rfl) ?_)
    repeat (first | refine VO_d ?_ | refine VQ_d ?_)
    (first | refine VO_q (Q_call rfl hcall (by (repeat (first | exact trivial | exact rfl | exact ⟨_, rfl⟩ | refine And.intro ?_ ?_)); first | done | fail)) rfl ?_ | refine VQ_q (Q_call rfl hcall (by (repeat (first | exact trivial | exact rfl | exact ⟨_, rfl⟩ | refine And.intro ?_ ?_)); first | done | fail)) rfl ?_ | (refine VO_bare rfl rfl rfl rfl ?_; refine VO_q (Q_call rfl hcall (by (repeat (first | exact trivial | exact rfl | exact ⟨_, rfl⟩ | refine And.intro ?_ ?_)); first | done | fail)) rfl ?_) | refine VQ_run rfl rfl rfl rfl (Q_call rfl hcall (by (repeat (first | exact trivial | exact rfl | exact ⟨_, rfl⟩ | refine And.intro ?_ ?_)); first | done | fail)) rfl ?_)
    repeat (first | refine VO_d ?_ | refine VQ_d ?_)
    (first | refine VO_nil ?_ | refine VQ_nil ?_)
    (first | refine V_cond rfl (fun hc3 => ?_) (fun hc3 => ?_) | refine V_seq (V_cond rfl (fun hc3 => ?_) (fun hc3 => ?_)))
    · (first | refine V_seq_region ?_ | refine V_seq (V_seq_region ?_) | refine V_seq_draw tmix (by kernel_rfl) ?_ | refine V_seq (V_seq_draw tmix (by kernel_rfl) ?_) | refine V_region ?_ | refine V_draw tmix (by kernel_rfl) ?_)
      repeat refine VO_d ?_
      (first | refine VO_nil ?_ | refine VQ_nil ?_)
      refine V_ret ?_
      exact ⟨trivial, ⟨_, rfl, congrArg U.b (deq_false.2 (by intro h; injection h with _ h; exact hne' (by simpa using hc3) h)).symm⟩, trivial⟩
    refine V_skip ?_
    have heq := heq' (by simpa using hc3)
    (first | refine V_seq_region ?_ | refine V_seq (V_seq_region ?_) | refine V_seq_draw tmix (by kernel_rfl) ?_ | refine V_seq (V_seq_draw tmix (by kernel_rfl) ?_) | refine V_region ?_ | refine V_draw tmix (by kernel_rfl) ?_)
    repeat refine VO_d ?_
    (first | refine VO_nil ?_ | refine VQ_nil ?_)
    refine ⟨k + 1, ⟨by omega, fun j hj => ?_⟩, by omega, ⟨rfl, ⟨⟨rfl, rfl⟩, ⟨rfl, rfl⟩, ⟨rfl, rfl⟩, ⟨rfl, rfl⟩, ⟨rfl, rfl⟩, ⟨rfl, rfl⟩, trivial⟩, ⟨_, rfl⟩, rfl⟩⟩
    by_cases hjk : j = k
    · subst hjk; exact heq
    · exact hsame j (by omega)
  · refine V_exit ?_
    simp only [decide_eq_false_iff_not] at hc2
    have hkl : k = us.length := by omega
    subst hkl
    have hall : us = vs := by
      apply List.ext_getElem?
      intro j
      by_cases hj : j < us.length
      · exact hsame j hj
      · rw [List.getElem?_eq_none (by omega), List.getElem?_eq_none (by omega)]
    show V _ _ _ _ _
    (first | refine V_seq_region ?_ | refine V_seq (V_seq_region ?_) | refine V_seq_draw tmix (by kernel_rfl) ?_ | refine V_seq (V_seq_draw tmix (by kernel_rfl) ?_) | refine V_region ?_ | refine V_draw tmix (by kernel_rfl) ?_)
    repeat refine VO_d ?_
    (first | refine VO_nil ?_ | refine VQ_nil ?_)
    refine V_ret ?_
    exact ⟨trivial, ⟨_, rfl, congrArg U.b (deq_true.2 (by rw [hall])).symm⟩, trivial⟩

set_option maxHeartbeats 4000000 in
theorem implEqualDictionary (u : U) : wt (.st 26) u → ∀ v, wt (.st 26) v → PEq 64 u v := by
  refine U.ind (M := fun u => wt (.st 26) u → ∀ v, wt (.st 26) v → PEq 64 u v) (fun u ih h v h2 => ?_) u
  obtain ⟨f0, f1, f2, f3, rfl, p0, p1, p2, p3⟩ := inv_Dictionary h
  obtain ⟨d0, d1, d2, d3, rfl, q0, q1, q2, q3⟩ := inv_Dictionary h2
  have hE := slicesEqual_int p2 q2
  have hF := equalFunc_Dictionary (fi := 64) p3.1 q3.1 p3.2 q3.2 (fun a ha b hb => ih a (by have := nn_of_mem ha; simp only [U.nn, U.nns]; omega) (p3.2 a ha) b (q3.2 b hb))
  obtain ⟨a0, a1, rfl, _⟩ := inv_InstanceRef p1
  obtain ⟨b0, b1, rfl, _⟩ := inv_InstanceRef q1
  clear ih h h2
  refine SpecP_intro Tryd.func64 rfl (by kernel_rfl) rfl fun A _ => ?_
  (first | refine V_seq_region ?_ | refine V_seq (V_seq_region ?_) | refine V_seq_draw tmix (by kernel_rfl) ?_ | refine V_seq (V_seq_draw tmix (by kernel_rfl) ?_) | refine V_region ?_ | refine V_draw tmix (by kernel_rfl) ?_)
  repeat refine VO_d ?_
  (first | refine VO_nil ?_ | refine VQ_nil ?_)
  (first | refine V_seq_region ?_ | refine V_seq (V_seq_region ?_) | refine V_seq_draw tmix (by kernel_rfl) ?_ | refine V_seq (V_seq_draw tmix (by kernel_rfl) ?_) | refine V_region ?_ | refine V_draw tmix (by kernel_rfl) ?_)
  repeat refine VO_d ?_
  cases hk0 : (f0 == d0)
  · skip
    repeat refine VO_d ?_
    (first | refine VO_nil ?_ | refine VQ_nil ?_)
    refine V_ret ?_
    exact ⟨trivial, ⟨_, rfl, congrArg U.b (deq_false.2 (by intro h; injection h with h; injection h with h0 h; injection h0 with _ h0; simp [h0] at hk0)).symm⟩, trivial⟩
  repeat refine VO_d ?_
  cases hk1 : (a0 == b0 && a1 == b1)
  · skip
    repeat refine VO_d ?_
    (first | refine VO_nil ?_ | refine VQ_nil ?_)
    refine V_ret ?_
    exact ⟨trivial, ⟨_, rfl, congrArg U.b (deq_false.2 (by intro h; injection h with h; injection h with h0 h; injection h with h1 h; injection h1 with h1; injection h1 with h1 h2; injection h2 with h2 _; injection h1 with _ h1; injection h2 with _ h2; simp [h1, h2] at hk1)).symm⟩, trivial⟩
  repeat refine VO_d ?_
  (first | refine VO_q (Q_call rfl hE (by (repeat (first | exact trivial | exact rfl | exact ⟨_, rfl⟩ | refine And.intro ?_ ?_)); first | done | fail)) rfl ?_ | refine VQ_q (Q_call rfl hE (by (repeat (first | exact trivial | exact rfl | exact ⟨_, rfl⟩ | refine And.intro ?_ ?_)); first | done | fail)) rfl ?_ | (refine VO_bare rfl rfl rfl rfl ?_; refine VO_q (Q_call rfl hE (by (repeat (first | exact trivial | exact rfl | exact ⟨_, rfl⟩ | refine And.intro ?_ ?_)); first | done | fail)) rfl ?_) | refine VQ_run rfl rfl rfl rfl (Q_call rfl hE (by (repeat (first | exact trivial | exact rfl | exact ⟨_, rfl⟩ | refine And.intro ?_ ?_)); first | done | fail)) rfl ?_)
  repeat refine VO_d ?_
  cases hk2 : (deq (U.sl 1 f2) (U.sl 1 d2))
  · skip
    repeat refine VO_d ?_
    (first | refine VO_nil ?_ | refine VQ_nil ?_)
    refine V_ret ?_
    exact ⟨trivial, ⟨_, rfl, congrArg U.b (deq_false.2 (by intro h; injection h with h; injection h with h0 h; injection h with h1 h; injection h with h2 h; rw [h2, deq_self] at hk2; cases hk2)).symm⟩, trivial⟩
  repeat refine VO_d ?_
  (first | refine VO_q (Q_call rfl hF (by (repeat (first | exact trivial | exact rfl | exact ⟨_, rfl⟩ | refine And.intro ?_ ?_)); first | done | fail)) rfl ?_ | refine VQ_q (Q_call rfl hF (by (repeat (first | exact trivial | exact rfl | exact ⟨_, rfl⟩ | refine And.intro ?_ ?_)); first | done | fail)) rfl ?_ | (refine VO_bare rfl rfl rfl rfl ?_; refine VO_q (Q_call rfl hF (by (repeat (first | exact trivial | exact rfl | exact ⟨_, rfl⟩ | refine And.intro ?_ ?_)); first | done | fail)) rfl ?_) | refine VQ_run rfl rfl rfl rfl (Q_call rfl hF (by (repeat (first | exact trivial | exact rfl | exact ⟨_, rfl⟩ | refine And.intro ?_ ?_)); first | done | fail)) rfl ?_)
  repeat refine VO_d ?_
  (first | refine VO_nil ?_ | refine VQ_nil ?_)
  refine V_ret ?_
  have e0 : f0 = d0 := by simpa using hk0
  have e1 : a0 = b0 ∧ a1 = b1 := by simpa using hk1
  have e2 := deq_true.1 hk2
  refine ⟨trivial, ⟨_, rfl, congrArg U.b ?_⟩, trivial⟩
  rw [e0, e1.1, e1.2, e2]
  cases hk3 : deq (U.sl 5 f3) (U.sl 5 d3)
  · exact (deq_false.2 (by intro h; injection h with h; injection h with h0 h; injection h with h1 h; injection h with h2 h; injection h with h3 h; rw [h3, deq_self] at hk3; cases hk3)).symm
  · exact (deq_true.2 (by rw [deq_true.1 hk3])).symm

set_option maxHeartbeats 8000000 in
theorem specEqualDictionary (u : U) : wt (.st 26) u → ∀ v, wt (.st 26) v → PEq 63 u v := by
  refine U.ind (M := fun u => wt (.st 26) u → ∀ v, wt (.st 26) v → PEq 63 u v) (fun u ih h v h2 => ?_) u
  obtain ⟨f0, f1, f2, f3, rfl, p0, p1, p2, p3⟩ := inv_Dictionary h
  obtain ⟨d0, d1, d2, d3, rfl, q0, q1, q2, q3⟩ := inv_Dictionary h2
  have hF : ∀ a ∈ f3, ∀ b ∈ d3, PEq 63 a b := fun a ha b hb => ih a (by have := nn_of_mem ha; simp only [U.nn, U.nns]; omega) (p3.2 a ha) b (q3.2 b hb)
  obtain ⟨a0, a1, rfl, _⟩ := inv_InstanceRef p1
  obtain ⟨b0, b1, rfl, _⟩ := inv_InstanceRef q1
  obtain ⟨hb2, hz2⟩ := p2
  obtain ⟨hb2', hz2'⟩ := q2
  obtain ⟨hb3, hz3⟩ := p3
  obtain ⟨hb3', hz3'⟩ := q3
  rw [big_eq] at hb2 hb2' hb3 hb3'
  clear ih h h2
  refine SpecP_intro Tryd.func63 rfl (by kernel_rfl) rfl fun A _ => ?_
  (first | refine V_seq_region ?_ | refine V_seq (V_seq_region ?_) | refine V_seq_draw tmix (by kernel_rfl) ?_ | refine V_seq (V_seq_draw tmix (by kernel_rfl) ?_) | refine V_region ?_ | refine V_draw tmix (by kernel_rfl) ?_)
  repeat refine VO_d ?_
  (first | refine VO_nil ?_ | refine VQ_nil ?_)
  (first | refine V_seq_region ?_ | refine V_seq (V_seq_region ?_) | refine V_seq_draw tmix (by kernel_rfl) ?_ | refine V_seq (V_seq_draw tmix (by kernel_rfl) ?_) | refine V_region ?_ | refine V_draw tmix (by kernel_rfl) ?_)
  repeat refine VO_d ?_
  cases hk0 : (f0 != d0)
  rotate_left
  · skip
    repeat refine VO_d ?_
    (first | refine VO_nil ?_ | refine VQ_nil ?_)
    (first | refine V_cond rfl (fun hc => ?_) (fun hc => ?_) | refine V_seq (V_cond rfl (fun hc => ?_) (fun hc => ?_)))
    · (first | refine V_seq_region ?_ | refine V_seq (V_seq_region ?_) | refine V_seq_draw tmix (by kernel_rfl) ?_ | refine V_seq (V_seq_draw tmix (by kernel_rfl) ?_) | refine V_region ?_ | refine V_draw tmix (by kernel_rfl) ?_)
      repeat refine VO_d ?_
      (first | refine VO_nil ?_ | refine VQ_nil ?_)
      refine V_ret ?_
      exact ⟨trivial, ⟨_, rfl, congrArg U.b (deq_false.2 (by intro h; injection h with h; injection h with h0 h; injection h0 with _ h0; subst h0; simp at hk0)).symm⟩, trivial⟩
    · cases hc
  repeat refine VO_d ?_
  cases hk1 : (!(a0 == b0 && a1 == b1))
  rotate_left
  · skip
    repeat refine VO_d ?_
    (first | refine VO_nil ?_ | refine VQ_nil ?_)
    (first | refine V_cond rfl (fun hc => ?_) (fun hc => ?_) | refine V_seq (V_cond rfl (fun hc => ?_) (fun hc => ?_)))
    · (first | refine V_seq_region ?_ | refine V_seq (V_seq_region ?_) | refine V_seq_draw tmix (by kernel_rfl) ?_ | refine V_seq (V_seq_draw tmix (by kernel_rfl) ?_) | refine V_region ?_ | refine V_draw tmix (by kernel_rfl) ?_)
      repeat refine VO_d ?_
      (first | refine VO_nil ?_ | refine VQ_nil ?_)
      refine V_ret ?_
      exact ⟨trivial, ⟨_, rfl, congrArg U.b (deq_false.2 (by intro h; injection h with h; injection h with h0 h; injection h with h1 h; injection h1 with h1; injection h1 with h1 h2; injection h2 with h2 _; injection h1 with _ h1; injection h2 with _ h2; subst h1; subst h2; simp at hk1)).symm⟩, trivial⟩
    · cases hc
  repeat refine VO_d ?_
  cases hk2 : ((f2.length : Int) != (d2.length : Int))
  rotate_left
  · skip
    repeat refine VO_d ?_
    (first | refine VO_nil ?_ | refine VQ_nil ?_)
    (first | refine V_cond rfl (fun hc => ?_) (fun hc => ?_) | refine V_seq (V_cond rfl (fun hc => ?_) (fun hc => ?_)))
    · (first | refine V_seq_region ?_ | refine V_seq (V_seq_region ?_) | refine V_seq_draw tmix (by kernel_rfl) ?_ | refine V_seq (V_seq_draw tmix (by kernel_rfl) ?_) | refine V_region ?_ | refine V_draw tmix (by kernel_rfl) ?_)
      repeat refine VO_d ?_
      (first | refine VO_nil ?_ | refine VQ_nil ?_)
      refine V_ret ?_
      exact ⟨trivial, ⟨_, rfl, congrArg U.b (deq_false.2 (by intro h; injection h with h; injection h with h0 h; injection h with h1 h; injection h with h2 h; injection h2 with _ h2; subst h2; simp at hk2)).symm⟩, trivial⟩
    · cases hc
  repeat refine VO_d ?_
  cases hk3 : ((f3.length : Int) != (d3.length : Int))
  rotate_left
  · skip
    repeat refine VO_d ?_
    (first | refine VO_nil ?_ | refine VQ_nil ?_)
    (first | refine V_cond rfl (fun hc => ?_) (fun hc => ?_) | refine V_seq (V_cond rfl (fun hc => ?_) (fun hc => ?_)))
    · (first | refine V_seq_region ?_ | refine V_seq (V_seq_region ?_) | refine V_seq_draw tmix (by kernel_rfl) ?_ | refine V_seq (V_seq_draw tmix (by kernel_rfl) ?_) | refine V_region ?_ | refine V_draw tmix (by kernel_rfl) ?_)
      repeat refine VO_d ?_
      (first | refine VO_nil ?_ | refine VQ_nil ?_)
      refine V_ret ?_
      exact ⟨trivial, ⟨_, rfl, congrArg U.b (deq_false.2 (by intro h; injection h with h; injection h with h0 h; injection h with h1 h; injection h with h2 h; injection h with h3 h; injection h3 with _ h3; subst h3; simp at hk3)).symm⟩, trivial⟩
    · cases hc
  repeat refine VO_d ?_
  (first | refine VO_nil ?_ | refine VQ_nil ?_)
  (first | refine V_cond rfl (fun hc => ?_) (fun hc => ?_) | refine V_seq (V_cond rfl (fun hc => ?_) (fun hc => ?_)))
  · cases hc
  refine V_skip ?_
  clear hc
  have e0 : f0 = d0 := by simpa using hk0
  have e1 : a0 = b0 ∧ a1 = b1 := by simpa using hk1
  have e2 : f2.length = d2.length := by simp at hk2; omega
  have e3 : f3.length = d3.length := by simp at hk3; omega
  clear hk0 hk1 hk2 hk3
  refine V_seq ?_
  (first | refine V_seq_region ?_ | refine V_seq (V_seq_region ?_) | refine V_seq_draw tmix (by kernel_rfl) ?_ | refine V_seq (V_seq_draw tmix (by kernel_rfl) ?_) | refine V_region ?_ | refine V_draw tmix (by kernel_rfl) ?_)
  repeat refine VO_d ?_
  (first | refine VO_nil ?_ | refine VQ_nil ?_)
  refine V_block ?_
  refine V_loop (α := Nat)
    (fun k => ⟨[(2, .ptr 0 0), (3, .ptr 1 0), (5, .d (.i .i64 k))], [.box [.d (.i .i64 f0), .d (.i .i64 a0), .d (.i .i64 a1), .d (.sl 1 f2), .d (.sl 5 f3)], .box [.d (.i .i64 d0), .d (.i .i64 b0), .d (.i .i64 b1), .d (.sl 1 d2), .d (.sl 5 d3)]], Tryd.f63.ntmps⟩)
    (fun k => k ≤ f2.length ∧ ∀ j, j < k → f2[j]? = d2[j]?)
    (fun k => f2.length - k) 0 ⟨rfl, ⟨⟨rfl, rfl⟩, ⟨rfl, rfl⟩, ⟨rfl, rfl⟩, trivial⟩, ⟨[], rfl⟩, rfl⟩ ⟨by simp, by simp⟩ ?_
  rintro k ⟨hk, hsame⟩
  (first | refine V_seq_region ?_ | refine V_seq (V_seq_region ?_) | refine V_seq_draw tmix (by kernel_rfl) ?_ | refine V_seq (V_seq_draw tmix (by kernel_rfl) ?_) | refine V_region ?_ | refine V_draw tmix (by kernel_rfl) ?_)
  repeat refine VO_d ?_
  (first | refine VO_nil ?_ | refine VQ_nil ?_)
  (first | refine V_cond rfl (fun hc2 => ?_) (fun hc2 => ?_) | refine V_seq (V_cond rfl (fun hc2 => ?_) (fun hc2 => ?_)))
  · refine V_skip ?_
    simp only [decide_eq_true_eq] at hc2
    have hkl : k < f2.length := by omega
    have hkv : k < d2.length := by omega
    have hget : f2[k]? = some f2[k] := List.getElem?_eq_getElem hkl
    have hgev : d2[k]? = some d2[k] := List.getElem?_eq_getElem hkv
    obtain ⟨l1, h1, _⟩ := inv_int (hz2 _ (List.getElem_mem hkl))
    obtain ⟨l2, h2, _⟩ := inv_int (hz2' _ (List.getElem_mem hkv))
    have hg1 : f2[k]? = some (.i .i64 l1) := by rw [hget, h1]
    have hg2 : d2[k]? = some (.i .i64 l2) := by rw [hgev, h2]
    refine V_seq (V_block ?_)
    (first | refine V_seq_region ?_ | refine V_seq (V_seq_region ?_) | refine V_seq_draw tmix (by kernel_rfl) ?_ | refine V_seq (V_seq_draw tmix (by kernel_rfl) ?_) | refine V_region ?_ | refine V_draw tmix (by kernel_rfl) ?_)
    repeat (first | refine VO_d ?_ | refine VQ_d ?_)
    (first | refine VO_q (Q_index rfl rfl TE.h TI.h (by omega) hg1) rfl ?_ | refine VQ_q (Q_index rfl rfl TE.h TI.h (by omega) hg1) rfl ?_ | (refine VO_bare rfl rfl rfl rfl ?_; refine VO_q (Q_index rfl rfl TE.h TI.h (by omega) hg1) rfl ?_) | refine VQ_run rfl rfl rfl rfl (Q_index rfl rfl TE.h TI.h (by omega) hg1) rfl ?_)
    repeat (first | refine VO_d ?_ | refine VQ_d ?_)
    (first | refine VO_q (Q_index rfl rfl TE.h TI.h (by omega) hg2) rfl ?_ | refine VQ_q (Q_index rfl rfl TE.h TI.h (by omega) hg2) rfl ?_ | (refine VO_bare rfl rfl rfl rfl ?_; refine VO_q (Q_index rfl rfl TE.h TI.h (by omega) hg2) rfl ?_) | refine VQ_run rfl rfl rfl rfl (Q_index rfl rfl TE.h TI.h (by omega) hg2) rfl ?_)
    repeat (first | refine VO_d ?_ | refine VQ_d ?_)
    (first | refine VO_nil ?_ | refine VQ_nil ?_)
    (first | refine V_cond rfl (fun hc3 => ?_) (fun hc3 => ?_) | refine V_seq (V_cond rfl (fun hc3 => ?_) (fun hc3 => ?_)))
    · (first | refine V_seq_region ?_ | refine V_seq (V_seq_region ?_) | refine V_seq_draw tmix (by kernel_rfl) ?_ | refine V_seq (V_seq_draw tmix (by kernel_rfl) ?_) | refine V_region ?_ | refine V_draw tmix (by kernel_rfl) ?_)
      repeat refine VO_d ?_
      (first | refine VO_nil ?_ | refine VQ_nil ?_)
      refine V_ret ?_
      exact ⟨trivial, ⟨_, rfl, congrArg U.b (deq_false.2 (by intro h; injection h with h; injection h with h0 h; injection h with h1 h; injection h with h2 h; injection h2 with _ h2; subst h2; rw [hg1] at hg2; injection hg2 with hg2; injection hg2; simp_all)).symm⟩, trivial⟩
    refine V_skip ?_
    have heq : f2[k] = d2[k] := by rw [h1, h2]; simp at hc3; rw [hc3]
    (first | refine V_seq_region ?_ | refine V_seq (V_seq_region ?_) | refine V_seq_draw tmix (by kernel_rfl) ?_ | refine V_seq (V_seq_draw tmix (by kernel_rfl) ?_) | refine V_region ?_ | refine V_draw tmix (by kernel_rfl) ?_)
    repeat refine VO_d ?_
    (first | refine VO_nil ?_ | refine VQ_nil ?_)
    refine ⟨k + 1, ⟨by omega, fun j hj => ?_⟩, by omega, ⟨rfl, ⟨⟨rfl, rfl⟩, ⟨rfl, rfl⟩, ⟨rfl, rfl⟩, trivial⟩, ⟨[], rfl⟩, rfl⟩⟩
    by_cases hjk : j = k
    · subst hjk; rw [hget, hgev, heq]
    · exact hsame j (by omega)
  refine V_exit ?_
  simp only [decide_eq_false_iff_not] at hc2
  have hkl : k = f2.length := by omega
  subst hkl
  have hall : f2 = d2 := by
    apply List.ext_getElem?
    intro j
    by_cases hj : j < f2.length
    · exact hsame j hj
    · rw [List.getElem?_eq_none (by omega), List.getElem?_eq_none (by omega)]
  show V _ _ _ _ _
  clear hsame hc2 hk
  refine V_seq ?_
  (first | refine V_seq_region ?_ | refine V_seq (V_seq_region ?_) | refine V_seq_draw tmix (by kernel_rfl) ?_ | refine V_seq (V_seq_draw tmix (by kernel_rfl) ?_) | refine V_region ?_ | refine V_draw tmix (by kernel_rfl) ?_)
  repeat refine VO_d ?_
  (first | refine VO_nil ?_ | refine VQ_nil ?_)
  refine V_block ?_
  refine V_loop (α := Nat)
    (fun k => ⟨[(2, .ptr 0 0), (3, .ptr 1 0), (6, .d (.i .i64 k))], [.box [.d (.i .i64 f0), .d (.i .i64 a0), .d (.i .i64 a1), .d (.sl 1 f2), .d (.sl 5 f3)], .box [.d (.i .i64 d0), .d (.i .i64 b0), .d (.i .i64 b1), .d (.sl 1 d2), .d (.sl 5 d3)]], Tryd.f63.ntmps⟩)
    (fun k => k ≤ f3.length ∧ ∀ j, j < k → f3[j]? = d3[j]?)
    (fun k => f3.length - k) 0 ⟨rfl, ⟨⟨rfl, rfl⟩, ⟨rfl, rfl⟩, ⟨rfl, rfl⟩, trivial⟩, ⟨[], rfl⟩, rfl⟩ ⟨by simp, by simp⟩ ?_
  rintro k ⟨hk, hsame⟩
  (first | refine V_seq_region ?_ | refine V_seq (V_seq_region ?_) | refine V_seq_draw tmix (by kernel_rfl) ?_ | refine V_seq (V_seq_draw tmix (by kernel_rfl) ?_) | refine V_region ?_ | refine V_draw tmix (by kernel_rfl) ?_)
  repeat refine VO_d ?_
  (first | refine VO_nil ?_ | refine VQ_nil ?_)
  (first | refine V_cond rfl (fun hc2 => ?_) (fun hc2 => ?_) | refine V_seq (V_cond rfl (fun hc2 => ?_) (fun hc2 => ?_)))
  · refine V_skip ?_
    simp only [decide_eq_true_eq] at hc2
    have hkl : k < f3.length := by omega
    have hkv : k < d3.length := by omega
    have hget : f3[k]? = some f3[k] := List.getElem?_eq_getElem hkl
    have hgev : d3[k]? = some d3[k] := List.getElem?_eq_getElem hkv
    have hwa := hz3 _ (List.getElem_mem hkl)
    have hwb := hz3' _ (List.getElem_mem hkv)
    refine V_seq (V_block ?_)
    (first | refine V_seq_region ?_ | refine V_seq (V_seq_region ?_) | refine V_seq_draw tmix (by kernel_rfl) ?_ | refine V_seq (V_seq_draw tmix (by kernel_rfl) ?_) | refine V_region ?_ | refine V_draw tmix (by kernel_rfl) ?_)
    repeat (first | refine VO_d ?_ | refine VQ_d ?_)
    (first | refine VO_q (Q_index rfl rfl TE.h TI.h (by omega) hget) rfl ?_ | refine VQ_q (Q_index rfl rfl TE.h TI.h (by omega) hget) rfl ?_ | (refine VO_bare rfl rfl rfl rfl ?_; refine VO_q (Q_index rfl rfl TE.h TI.h (by omega) hget) rfl ?_) | refine VQ_run rfl rfl rfl rfl (Q_index rfl rfl TE.h TI.h (by omega) hget) rfl ?_)
    (first | refine VO_q (Q_load rfl TI.h (wt_isSt hwa) (wt_sz _ _ hwa)) rfl ?_ | refine VQ_q (Q_load rfl TI.h (wt_isSt hwa) (wt_sz _ _ hwa)) rfl ?_ | (refine VO_bare rfl rfl rfl rfl ?_; refine VO_q (Q_load rfl TI.h (wt_isSt hwa) (wt_sz _ _ hwa)) rfl ?_) | refine VQ_run rfl rfl rfl rfl (Q_load rfl TI.h (wt_isSt hwa) (wt_sz _ _ hwa)) rfl ?_)
    repeat (first | refine VO_d ?_ | refine VQ_d ?_)
    (first | refine VO_q (Q_index rfl rfl TE.h TI.h (by omega) hgev) rfl ?_ | refine VQ_q (Q_index rfl rfl TE.h TI.h (by omega) hgev) rfl ?_ | (refine VO_bare rfl rfl rfl rfl ?_; refine VO_q (Q_index rfl rfl TE.h TI.h (by omega) hgev) rfl ?_) | refine VQ_run rfl rfl rfl rfl (Q_index rfl rfl TE.h TI.h (by omega) hgev) rfl ?_)
    (first | refine VO_q (Q_load rfl TI.h (wt_isSt hwb) (wt_sz _ _ hwb)) rfl ?_ | refine VQ_q (Q_load rfl TI.h (wt_isSt hwb) (wt_sz _ _ hwb)) rfl ?_ | (refine VO_bare rfl rfl rfl rfl ?_; refine VO_q (Q_load rfl TI.h (wt_isSt hwb) (wt_sz _ _ hwb)) rfl ?_) | refine VQ_run rfl rfl rfl rfl (Q_load rfl TI.h (wt_isSt hwb) (wt_sz _ _ hwb)) rfl ?_)
    (first | refine VO_q (Q_call rfl (hF _ (List.getElem_mem hkl) _ (List.getElem_mem hkv)) (by (repeat (first | exact trivial | exact rfl | exact ⟨_, rfl⟩ | refine And.intro ?_ ?_)); first | done | fail)) rfl ?_ | refine VQ_q (Q_call rfl (hF _ (List.getElem_mem hkl) _ (List.getElem_mem hkv)) (by (repeat (first | exact trivial | exact rfl | exact ⟨_, rfl⟩ | refine And.intro ?_ ?_)); first | done | fail)) rfl ?_ | (refine VO_bare rfl rfl rfl rfl ?_; refine VO_q (Q_call rfl (hF _ (List.getElem_mem hkl) _ (List.getElem_mem hkv)) (by (repeat (first | exact trivial | exact rfl | exact ⟨_, rfl⟩ | refine And.intro ?_ ?_)); first | done | fail)) rfl ?_) | refine VQ_run rfl rfl rfl rfl (Q_call rfl (hF _ (List.getElem_mem hkl) _ (List.getElem_mem hkv)) (by (repeat (first | exact trivial | exact rfl | exact ⟨_, rfl⟩ | refine And.intro ?_ ?_)); first | done | fail)) rfl ?_)
    repeat (first | refine VO_d ?_ | refine VQ_d ?_)
    (first | refine VO_nil ?_ | refine VQ_nil ?_)
    (first | refine V_cond rfl (fun hc3 => ?_) (fun hc3 => ?_) | refine V_seq (V_cond rfl (fun hc3 => ?_) (fun hc3 => ?_)))
    · (first | refine V_seq_region ?_ | refine V_seq (V_seq_region ?_) | refine V_seq_draw tmix (by kernel_rfl) ?_ | refine V_seq (V_seq_draw tmix (by kernel_rfl) ?_) | refine V_region ?_ | refine V_draw tmix (by kernel_rfl) ?_)
      repeat refine VO_d ?_
      (first | refine VO_nil ?_ | refine VQ_nil ?_)
      refine V_ret ?_
      exact ⟨trivial, ⟨_, rfl, congrArg U.b (deq_false.2 (by intro h; injection h with h; injection h with h0 h; injection h with h1 h; injection h with h2 h; injection h with h3 h; injection h3 with _ h3; subst h3; rw [deq_self] at hc3; cases hc3)).symm⟩, trivial⟩
    refine V_skip ?_
    have heq : f3[k] = d3[k] := deq_true.1 (by simpa using hc3)
    (first | refine V_seq_region ?_ | refine V_seq (V_seq_region ?_) | refine V_seq_draw tmix (by kernel_rfl) ?_ | refine V_seq (V_seq_draw tmix (by kernel_rfl) ?_) | refine V_region ?_ | refine V_draw tmix (by kernel_rfl) ?_)
    repeat refine VO_d ?_
    (first | refine VO_nil ?_ | refine VQ_nil ?_)
    refine ⟨k + 1, ⟨by omega, fun j hj => ?_⟩, by omega, ⟨rfl, ⟨⟨rfl, rfl⟩, ⟨rfl, rfl⟩, ⟨rfl, rfl⟩, trivial⟩, ⟨[], rfl⟩, rfl⟩⟩
    by_cases hjk : j = k
    · subst hjk; rw [hget, hgev, heq]
    · exact hsame j (by omega)
  refine V_exit ?_
  simp only [decide_eq_false_iff_not] at hc2
  have hkl : k = f3.length := by omega
  subst hkl
  have hall3 : f3 = d3 := by
    apply List.ext_getElem?
    intro j
    by_cases hj : j < f3.length
    · exact hsame j hj
    · rw [List.getElem?_eq_none (by omega), List.getElem?_eq_none (by omega)]
  show V _ _ _ _ _
  (first | refine V_seq_region ?_ | refine V_seq (V_seq_region ?_) | refine V_seq_draw tmix (by kernel_rfl) ?_ | refine V_seq (V_seq_draw tmix (by kernel_rfl) ?_) | refine V_region ?_ | refine V_draw tmix (by kernel_rfl) ?_)
  repeat refine VO_d ?_
  (first | refine VO_nil ?_ | refine VQ_nil ?_)
  refine V_ret ?_
  exact ⟨trivial, ⟨_, rfl, congrArg U.b (deq_true.2 (by rw [e0, e1.1, e1.2, hall, hall3])).symm⟩, trivial⟩

end Go.Proofs.YthojhakapbfbiaaDoor

set_option linter.unusedVariables false
set_option linter.unusedSimpArgs false
namespace Go.Proofs.YthojhakapbfbiaaDoor
open Go Go.Eng
attribute [local irreducible] V VO VQ Quiet SpecP
set_option maxHeartbeats 4000000 in
theorem equalFunc_Value {fi : Nat} {us vs : List U} (hb1 : us.length ≤ big) (hb2 : vs.length ≤ big) (hw : ∀ a ∈ us, wt (.st 27) a) (hw2 : ∀ a ∈ vs, wt (.st 27) a) (ih : ∀ a ∈ us, ∀ b ∈ vs, PEq fi a b) :
    SpecP Tryd.prog 65 [.d (.sl 9 us), .d (.sl 9 vs), .fn fi []] [.b (deq (.sl 9 us) (.sl 9 vs))] := by
  rw [big_eq] at hb1 hb2
  refine SpecP_intro Tryd.func65 rfl (by kernel_rfl) rfl fun A _ => ?_
  (first | refine V_seq_region ?_ | refine V_seq (V_seq_region ?_) | refine V_seq_draw tmix (by kernel_rfl) ?_ | refine V_seq (V_seq_draw tmix (by kernel_rfl) ?_) | refine V_region ?_ | refine V_draw tmix (by kernel_rfl) ?_)
  repeat refine VO_d ?_
  (first | refine VO_nil ?_ | refine VQ_nil ?_)
  (first | refine V_seq_region ?_ | refine V_seq (V_seq_region ?_) | refine V_seq_draw tmix (by kernel_rfl) ?_ | refine V_seq (V_seq_draw tmix (by kernel_rfl) ?_) | refine V_region ?_ | refine V_draw tmix (by kernel_rfl) ?_)
  repeat refine VO_d ?_
  (first | refine VO_nil ?_ | refine VQ_nil ?_)
  (first | refine V_cond rfl (fun hc => ?_) (fun hc => ?_) | refine V_seq (V_cond rfl (fun hc => ?_) (fun hc => ?_)))
  · (first | refine V_seq_region ?_ | refine V_seq (V_seq_region ?_) | refine V_seq_draw tmix (by kernel_rfl) ?_ | refine V_seq (V_seq_draw tmix (by kernel_rfl) ?_) | refine V_region ?_ | refine V_draw tmix (by kernel_rfl) ?_)
    repeat refine VO_d ?_
    (first | refine VO_nil ?_ | refine VQ_nil ?_)
    refine V_ret ?_
    exact ⟨trivial, ⟨_, rfl, congrArg U.b (deq_false.2 (by intro h; injection h with _ h; subst h; simp at hc)).symm⟩, trivial⟩
  refine V_skip ?_
  have hll : us.length = vs.length := by simp at hc; omega
  (first | refine V_seq_region ?_ | refine V_seq (V_seq_region ?_) | refine V_seq_draw tmix (by kernel_rfl) ?_ | refine V_seq (V_seq_draw tmix (by kernel_rfl) ?_) | refine V_region ?_ | refine V_draw tmix (by kernel_rfl) ?_)
  repeat refine VO_d ?_
  (first | refine VO_nil ?_ | refine VQ_nil ?_)
  refine V_block ?_
  refine V_loop (α := Nat)
    (fun k => ⟨[(0, .d (.sl 9 us)), (1, .d (.sl 9 vs)), (2, .fn fi []), (15, .d (.sl 9 us)), (16, .d (.i .i64 us.length)), (17, .d (.i .i64 k))], [], Tryd.f65.ntmps⟩)
    (fun k => k ≤ us.length ∧ ∀ j, j < k → us[j]? = vs[j]?)
    (fun k => us.length - k) 0 ⟨rfl, ⟨⟨rfl, rfl⟩, ⟨rfl, rfl⟩, ⟨rfl, rfl⟩, ⟨rfl, rfl⟩, ⟨rfl, rfl⟩, ⟨rfl, rfl⟩, trivial⟩, ⟨[], rfl⟩, rfl⟩ ⟨by simp, by simp⟩ ?_
  rintro k ⟨hk, hsame⟩
  (first | refine V_seq_region ?_ | refine V_seq (V_seq_region ?_) | refine V_seq_draw tmix (by kernel_rfl) ?_ | refine V_seq (V_seq_draw tmix (by kernel_rfl) ?_) | refine V_region ?_ | refine V_draw tmix (by kernel_rfl) ?_)
  repeat refine VO_d ?_
  (first | refine VO_nil ?_ | refine VQ_nil ?_)
  (first | refine V_cond rfl (fun hc2 => ?_) (fun hc2 => ?_) | refine V_seq (V_cond rfl (fun hc2 => ?_) (fun hc2 => ?_)))
  · refine V_skip ?_
    simp only [decide_eq_true_eq] at hc2
    obtain ⟨a, hget⟩ : ∃ a, us[k]? = some a := ⟨_, List.getElem?_eq_getElem (by omega)⟩
    obtain ⟨b, hgev⟩ : ∃ b, vs[k]? = some b := ⟨_, List.getElem?_eq_getElem (by omega)⟩
    have hmem := List.mem_of_getElem? hget
    have hmev := List.mem_of_getElem? hgev
    have hcall := ih _ hmem _ hmev
    have heq' : deq a b = true → us[k]? = vs[k]? := fun h => by rw [hget, hgev, deq_true.1 h]
    have hne' : deq a b = false → us ≠ vs := fun h h3 => by subst h3; rw [hget] at hgev; injection hgev with hgev; subst hgev; rw [deq_self] at h; cases h
    obtain ⟨e1_0, e1_1, e1_2, e1_3, e1_4, rfl, g1_0, g1_1, g1_2, g1_3, g1_4⟩ := inv_Value (hw _ hmem)
    obtain ⟨e2_0, e2_1, e2_2, e2_3, rfl, g2_0, g2_1, g2_2, g2_3⟩ := inv_Dictionary g1_3
    obtain ⟨e3_0, e3_1, rfl, g3_0, g3_1⟩ := inv_InstanceRef g2_1
    obtain ⟨e4_0, e4_1, e4_2, e4_3, e4_4, rfl, g4_0, g4_1, g4_2, g4_3, g4_4⟩ := inv_Value (hw2 _ hmev)
    obtain ⟨e5_0, e5_1, e5_2, e5_3, rfl, g5_0, g5_1, g5_2, g5_3⟩ := inv_Dictionary g4_3
    obtain ⟨e6_0, e6_1, rfl, g6_0, g6_1⟩ := inv_InstanceRef g5_1
    refine V_seq (V_block ?_)
    (first | refine V_seq_region ?_ | refine V_seq (V_seq_region ?_) | refine V_seq_draw tmix (by kernel_rfl) ?_ | refine V_seq (V_seq_draw tmix (by kernel_rfl) ?_) | refine V_region ?_ | refine V_draw tmix (by kernel_rfl) ?_)
    repeat (first | refine VO_d ?_ | refine VQ_d ?_)
    (first | refine VO_q (Q_index rfl rfl TE.h TI.h (by omega) hget) rfl ?_ | refine VQ_q (Q_index rfl rfl TE.h TI.h (by omega) hget) rfl ?_ | (refine VO_bare rfl rfl rfl rfl ?_; refine VO_q (Q_index rfl rfl TE.h TI.h (by omega) hget) rfl ?_) | refine VQ_run rfl rfl rfl rfl (Q_index rfl rfl TE.h TI.h (by omega) hget) rfl ?_)
    repeat (first | refine VO_d ?_ | refine VQ_d ?_)
    (first | refine VO_nil ?_ | refine VQ_nil ?_)
    (first | refine V_seq_region ?_ | refine V_seq (V_seq_region ?_) | refine V_seq_draw tmix (by kernel_rfl) ?_ | refine V_seq (V_seq_draw tmix (by kernel_rfl) ?_) | refine V_region ?_ | refine V_draw tmix (by kernel_rfl) ?_)
    repeat (first | refine VO_d ?_ | refine VQ_d ?_)
    (first | refine VO_q (Q_index rfl rfl TE.h TI.h (by omega) hgev) rfl ?_ | refine VQ_q (Q_index rfl rfl TE.h TI.h (by omega) hgev) rfl ?_ | (refine VO_bare rfl rfl rfl rfl ?_; refine VO_q (Q_index rfl rfl TE.h TI.h (by omega) hgev) rfl ?_) | refine VQ_run rfl rfl rfl rfl (Q_index rfl rfl TE.h TI.h (by omega) hgev) rfl ?_)
    repeat (first | refine VO_d ?_ | refine VQ_d ?_)
    (first | refine VO_nil ?_ | refine VQ_nil ?_)
    (first | refine V_seq_region ?_ | refine V_seq (V_seq_region ?_) | refine V_seq_draw tmix (by kernel_rfl) ?_ | refine V_seq (V_seq_draw tmix (by kernel_rfl) ?_) | refine V_region ?_ | refine V_draw tmix (by kernel_rfl) ?_)
    repeat (first | refine VO_d ?_ | refine VQ_d ?_)
    (first | refine VO_q (Q_call rfl hcall (by (repeat (first | exact trivial | exact rfl | exact ⟨_, rfl⟩ | refine And.intro ?_ ?_)); first | done | fail)) rfl ?_ | refine VQ_q (Q_call rfl hcall (by (repeat (first | exact trivial | exact rfl | exact ⟨_, rfl⟩ | refine And.intro ?_ ?_)); first | done | fail)) rfl ?_ | (refine VO_bare rfl rfl rfl rfl ?_; refine VO_q (Q_call rfl hcall (by (repeat (first | exact trivial | exact rfl | exact ⟨_, rfl⟩ | refine And.intro ?_ ?_)); first | done | fail)) rfl ?_) | refine VQ_run rfl rfl rfl rfl (Q_call rfl hcall (by (repeat (first | exact trivial | exact rfl | exact ⟨_, rfl⟩ | refine And.intro ?_ ?_)); first | done | fail)) rfl ?_)
    repeat (first | refine VO_d ?_ | refine VQ_d ?_)
    (first | refine VO_nil ?_ | refine VQ_nil ?_)
    (first | refine V_cond rfl (fun hc3 => ?_) (fun hc3 => ?_) | refine V_seq (V_cond rfl (fun hc3 => ?_) (fun hc3 => ?_)))
    · (first | refine V_seq_region ?_ | refine V_seq (V_seq_region ?_) | refine V_seq_draw tmix (by kernel_rfl) ?_ | refine V_seq (V_seq_draw tmix (by kernel_rfl) ?_) | refine V_region ?_ | refine V_draw tmix (by kernel_rfl) ?_)
      repeat refine VO_d ?_
      (first | refine VO_nil ?_ | refine VQ_nil ?_)
      refine V_ret ?_
      exact ⟨trivial, ⟨_, rfl, congrArg U.b (deq_false.2 (by intro h; injection h with _ h; exact hne' (by simpa using hc3) h)).symm⟩, trivial⟩
    refine V_skip ?_
    have heq := heq' (by simpa using hc3)
    (first | refine V_seq_region ?_ | refine V_seq (V_seq_region ?_) | refine V_seq_draw tmix (by kernel_rfl) ?_ | refine V_seq (V_seq_draw tmix (by kernel_rfl) ?_) | refine V_region ?_ | refine V_draw tmix (by kernel_rfl) ?_)
    repeat refine VO_d ?_
    (first | refine VO_nil ?_ | refine VQ_nil ?_)
    refine ⟨k + 1, ⟨by omega, fun j hj => ?_⟩, by omega, ⟨rfl, ⟨⟨rfl, rfl⟩, ⟨rfl, rfl⟩, ⟨rfl, rfl⟩, ⟨rfl, rfl⟩, ⟨rfl, rfl⟩, ⟨rfl, rfl⟩, trivial⟩, ⟨_, rfl⟩, rfl⟩⟩
    by_cases hjk : j = k
    · subst hjk; exact heq
    · exact hsame j (by omega)
  · refine V_exit ?_
    simp only [decide_eq_false_iff_not] at hc2
    have hkl : k = us.length := by omega
    subst hkl
    have hall : us = vs := by
      apply List.ext_getElem?
      intro j
      by_cases hj : j < us.length
      · exact hsame j hj
      · rw [List.getElem?_eq_none (by omega), List.getElem?_eq_none (by omega)]
    show V _ _ _ _ _
    (first | refine V_seq_region ?_ | refine V_seq (V_seq_region ?_) | refine V_seq_draw tmix (by kernel_rfl) ?_ | refine V_seq (V_seq_draw tmix (by kernel_rfl) ?_) | refine V_region ?_ | refine V_draw tmix (by kernel_rfl) ?_)
    repeat refine VO_d ?_
    (first | refine VO_nil ?_ | refine VQ_nil ?_)
    refine V_ret ?_
    exact ⟨trivial, ⟨_, rfl, congrArg U.b (deq_true.2 (by rw [hall])).symm⟩, trivial⟩

set_option maxHeartbeats 8000000 in
theorem implEqualValue (u : U) : wt (.st 27) u → ∀ v, wt (.st 27) v → PEq 26 u v := by
  refine U.ind (M := fun u => wt (.st 27) u → ∀ v, wt (.st 27) v → PEq 26 u v) (fun u ih h v h2 => ?_) u
  obtain ⟨f0, f1, f2, f3, f4, rfl, p0, p1, p2, p3, p4⟩ := inv_Value h
  obtain ⟨d0, d1, d2, d3, d4, rfl, q0, q1, q2, q3, q4⟩ := inv_Value h2
  have hE : PEq 64 f3 d3 := implEqualDictionary f3 p3 d3 q3
  obtain ⟨r3, hr3⟩ : ∃ r, deq f3 d3 = r := ⟨_, rfl⟩
  unfold PEq at hE
  rw [hr3] at hE
  have hI : ∀ a ∈ f4, ∀ b ∈ d4, PEq 26 a b := fun a ha b hb => ih a (by have := nn_of_mem ha; simp only [U.nn, U.nns]; omega) (p4.2 a ha) b (q4.2 b hb)
  have hF := equalFunc_Value (fi := 26) p4.1 q4.1 p4.2 q4.2 hI
  obtain ⟨c0, c1, c2, c3, rfl, _, pc, _⟩ := inv_Dictionary p3
  obtain ⟨c10, c11, rfl, _⟩ := inv_InstanceRef pc
  obtain ⟨g0, g1, g2, g3, rfl, _, pg, _⟩ := inv_Dictionary q3
  obtain ⟨g10, g11, rfl, _⟩ := inv_InstanceRef pg
  obtain ⟨hb4, hz4⟩ := p4
  obtain ⟨hb4', hz4'⟩ := q4
  rw [big_eq] at hb4 hb4'
  clear ih h h2
  refine SpecP_intro Tryd.func26 rfl (by kernel_rfl) rfl fun A _ => ?_
  (first | refine V_seq_region ?_ | refine V_seq (V_seq_region ?_) | refine V_seq_draw tmix (by kernel_rfl) ?_ | refine V_seq (V_seq_draw tmix (by kernel_rfl) ?_) | refine V_region ?_ | refine V_draw tmix (by kernel_rfl) ?_)
  repeat refine VO_d ?_
  (first | refine VO_nil ?_ | refine VQ_nil ?_)
  (first | refine V_seq_region ?_ | refine V_seq (V_seq_region ?_) | refine V_seq_draw tmix (by kernel_rfl) ?_ | refine V_seq (V_seq_draw tmix (by kernel_rfl) ?_) | refine V_region ?_ | refine V_draw tmix (by kernel_rfl) ?_)
  repeat refine VO_d ?_
  cases hk0 : (f0 == d0)
  · skip
    repeat refine VO_d ?_
    (first | refine VO_nil ?_ | refine VQ_nil ?_)
    refine V_ret ?_
    exact ⟨trivial, ⟨_, rfl, congrArg U.b (deq_false.2 (by intro h; cases h; simp [deq_self] at hk0)).symm⟩, trivial⟩
  repeat refine VO_d ?_
  cases hk1 : (f1 == d1)
  · skip
    repeat refine VO_d ?_
    (first | refine VO_nil ?_ | refine VQ_nil ?_)
    refine V_ret ?_
    exact ⟨trivial, ⟨_, rfl, congrArg U.b (deq_false.2 (by intro h; cases h; simp [deq_self] at hk1)).symm⟩, trivial⟩
  repeat refine VO_d ?_
  cases hk2 : (f2 == d2)
  · skip
    repeat refine VO_d ?_
    (first | refine VO_nil ?_ | refine VQ_nil ?_)
    refine V_ret ?_
    exact ⟨trivial, ⟨_, rfl, congrArg U.b (deq_false.2 (by intro h; cases h; simp [deq_self] at hk2)).symm⟩, trivial⟩
  repeat refine VO_d ?_
  (first | refine VO_q (Q_call rfl hE (by (repeat (first | exact trivial | exact rfl | exact ⟨_, rfl⟩ | refine And.intro ?_ ?_)); first | done | fail)) rfl ?_ | refine VQ_q (Q_call rfl hE (by (repeat (first | exact trivial | exact rfl | exact ⟨_, rfl⟩ | refine And.intro ?_ ?_)); first | done | fail)) rfl ?_ | (refine VO_bare rfl rfl rfl rfl ?_; refine VO_q (Q_call rfl hE (by (repeat (first | exact trivial | exact rfl | exact ⟨_, rfl⟩ | refine And.intro ?_ ?_)); first | done | fail)) rfl ?_) | refine VQ_run rfl rfl rfl rfl (Q_call rfl hE (by (repeat (first | exact trivial | exact rfl | exact ⟨_, rfl⟩ | refine And.intro ?_ ?_)); first | done | fail)) rfl ?_)
  repeat refine VO_d ?_
  cases r3
  · skip
    repeat refine VO_d ?_
    (first | refine VO_nil ?_ | refine VQ_nil ?_)
    refine V_ret ?_
    exact ⟨trivial, ⟨_, rfl, congrArg U.b (deq_false.2 (by intro h; cases h; simp [deq_self] at hr3)).symm⟩, trivial⟩
  repeat refine VO_d ?_
  (first | refine VO_q (Q_call rfl hF (by (repeat (first | exact trivial | exact rfl | exact ⟨_, rfl⟩ | refine And.intro ?_ ?_)); first | done | fail)) rfl ?_ | refine VQ_q (Q_call rfl hF (by (repeat (first | exact trivial | exact rfl | exact ⟨_, rfl⟩ | refine And.intro ?_ ?_)); first | done | fail)) rfl ?_ | (refine VO_bare rfl rfl rfl rfl ?_; refine VO_q (Q_call rfl hF (by (repeat (first | exact trivial | exact rfl | exact ⟨_, rfl⟩ | refine And.intro ?_ ?_)); first | done | fail)) rfl ?_) | refine VQ_run rfl rfl rfl rfl (Q_call rfl hF (by (repeat (first | exact trivial | exact rfl | exact ⟨_, rfl⟩ | refine And.intro ?_ ?_)); first | done | fail)) rfl ?_)
  repeat refine VO_d ?_
  (first | refine VO_nil ?_ | refine VQ_nil ?_)
  refine V_ret ?_
  have e0 : f0 = d0 := by simpa using hk0
  have e1 : f1 = d1 := by simpa using hk1
  have e2 : f2 = d2 := by simpa using hk2
  refine ⟨trivial, ⟨_, rfl, congrArg U.b ?_⟩, trivial⟩
  rw [e0, e1, e2, deq_true.1 hr3]
  cases hk4 : deq (U.sl 9 f4) (U.sl 9 d4)
  · exact (deq_false.2 (by intro h; cases h; simp [deq_self] at hk4)).symm
  · exact (deq_true.2 (by rw [deq_true.1 hk4])).symm

set_option maxHeartbeats 8000000 in
theorem specEqualValue (u : U) : wt (.st 27) u → ∀ v, wt (.st 27) v → PEq 25 u v := by
  refine U.ind (M := fun u => wt (.st 27) u → ∀ v, wt (.st 27) v → PEq 25 u v) (fun u ih h v h2 => ?_) u
  obtain ⟨f0, f1, f2, f3, f4, rfl, p0, p1, p2, p3, p4⟩ := inv_Value h
  obtain ⟨d0, d1, d2, d3, d4, rfl, q0, q1, q2, q3, q4⟩ := inv_Value h2
  have hE : PEq 63 f3 d3 := specEqualDictionary f3 p3 d3 q3
  obtain ⟨r3, hr3⟩ : ∃ r, deq f3 d3 = r := ⟨_, rfl⟩
  unfold PEq at hE
  rw [hr3] at hE
  have hI : ∀ a ∈ f4, ∀ b ∈ d4, PEq 25 a b := fun a ha b hb => ih a (by have := nn_of_mem ha; simp only [U.nn, U.nns]; omega) (p4.2 a ha) b (q4.2 b hb)
  obtain ⟨c0, c1, c2, c3, rfl, _, pc, _⟩ := inv_Dictionary p3
  obtain ⟨c10, c11, rfl, _⟩ := inv_InstanceRef pc
  obtain ⟨g0, g1, g2, g3, rfl, _, pg, _⟩ := inv_Dictionary q3
  obtain ⟨g10, g11, rfl, _⟩ := inv_InstanceRef pg
  obtain ⟨hb4, hz4⟩ := p4
  obtain ⟨hb4', hz4'⟩ := q4
  rw [big_eq] at hb4 hb4'
  clear ih h h2
  refine SpecP_intro Tryd.func25 rfl (by kernel_rfl) rfl fun A _ => ?_
  (first | refine V_seq_region ?_ | refine V_seq (V_seq_region ?_) | refine V_seq_draw tmix (by kernel_rfl) ?_ | refine V_seq (V_seq_draw tmix (by kernel_rfl) ?_) | refine V_region ?_ | refine V_draw tmix (by kernel_rfl) ?_)
  repeat refine VO_d ?_
  (first | refine VO_nil ?_ | refine VQ_nil ?_)
  (first | refine V_seq_region ?_ | refine V_seq (V_seq_region ?_) | refine V_seq_draw tmix (by kernel_rfl) ?_ | refine V_seq (V_seq_draw tmix (by kernel_rfl) ?_) | refine V_region ?_ | refine V_draw tmix (by kernel_rfl) ?_)
  repeat refine VO_d ?_
  cases hk0 : (f0 != d0)
  rotate_left
  · skip
    repeat refine VO_d ?_
    (first | refine VO_nil ?_ | refine VQ_nil ?_)
    (first | refine V_cond rfl (fun hc => ?_) (fun hc => ?_) | refine V_seq (V_cond rfl (fun hc => ?_) (fun hc => ?_)))
    · (first | refine V_seq_region ?_ | refine V_seq (V_seq_region ?_) | refine V_seq_draw tmix (by kernel_rfl) ?_ | refine V_seq (V_seq_draw tmix (by kernel_rfl) ?_) | refine V_region ?_ | refine V_draw tmix (by kernel_rfl) ?_)
      repeat refine VO_d ?_
      (first | refine VO_nil ?_ | refine VQ_nil ?_)
      refine V_ret ?_
      exact ⟨trivial, ⟨_, rfl, congrArg U.b (deq_false.2 (by intro h; cases h; simp [deq_self] at hk0)).symm⟩, trivial⟩
    · cases hc
  repeat refine VO_d ?_
  cases hk1 : (f1 != d1)
  rotate_left
  · skip
    repeat refine VO_d ?_
    (first | refine VO_nil ?_ | refine VQ_nil ?_)
    (first | refine V_cond rfl (fun hc => ?_) (fun hc => ?_) | refine V_seq (V_cond rfl (fun hc => ?_) (fun hc => ?_)))
    · (first | refine V_seq_region ?_ | refine V_seq (V_seq_region ?_) | refine V_seq_draw tmix (by kernel_rfl) ?_ | refine V_seq (V_seq_draw tmix (by kernel_rfl) ?_) | refine V_region ?_ | refine V_draw tmix (by kernel_rfl) ?_)
      repeat refine VO_d ?_
      (first | refine VO_nil ?_ | refine VQ_nil ?_)
      refine V_ret ?_
      exact ⟨trivial, ⟨_, rfl, congrArg U.b (deq_false.2 (by intro h; cases h; simp [deq_self] at hk1)).symm⟩, trivial⟩
    · cases hc
  repeat refine VO_d ?_
  cases hk2 : (!(f2 == d2))
  rotate_left
  · skip
    repeat refine VO_d ?_
    (first | refine VO_nil ?_ | refine VQ_nil ?_)
    (first | refine V_cond rfl (fun hc => ?_) (fun hc => ?_) | refine V_seq (V_cond rfl (fun hc => ?_) (fun hc => ?_)))
    · (first | refine V_seq_region ?_ | refine V_seq (V_seq_region ?_) | refine V_seq_draw tmix (by kernel_rfl) ?_ | refine V_seq (V_seq_draw tmix (by kernel_rfl) ?_) | refine V_region ?_ | refine V_draw tmix (by kernel_rfl) ?_)
      repeat refine VO_d ?_
      (first | refine VO_nil ?_ | refine VQ_nil ?_)
      refine V_ret ?_
      exact ⟨trivial, ⟨_, rfl, congrArg U.b (deq_false.2 (by intro h; cases h; simp [deq_self] at hk2)).symm⟩, trivial⟩
    · cases hc
  repeat refine VO_d ?_
  (first | refine VO_q (Q_call rfl hE (by (repeat (first | exact trivial | exact rfl | exact ⟨_, rfl⟩ | refine And.intro ?_ ?_)); first | done | fail)) rfl ?_ | refine VQ_q (Q_call rfl hE (by (repeat (first | exact trivial | exact rfl | exact ⟨_, rfl⟩ | refine And.intro ?_ ?_)); first | done | fail)) rfl ?_ | (refine VO_bare rfl rfl rfl rfl ?_; refine VO_q (Q_call rfl hE (by (repeat (first | exact trivial | exact rfl | exact ⟨_, rfl⟩ | refine And.intro ?_ ?_)); first | done | fail)) rfl ?_) | refine VQ_run rfl rfl rfl rfl (Q_call rfl hE (by (repeat (first | exact trivial | exact rfl | exact ⟨_, rfl⟩ | refine And.intro ?_ ?_)); first | done | fail)) rfl ?_)
  repeat refine VO_d ?_
  cases r3
  · skip
    repeat refine VO_d ?_
    (first | refine VO_nil ?_ | refine VQ_nil ?_)
    (first | refine V_cond rfl (fun hc => ?_) (fun hc => ?_) | refine V_seq (V_cond rfl (fun hc => ?_) (fun hc => ?_)))
    · (first | refine V_seq_region ?_ | refine V_seq (V_seq_region ?_) | refine V_seq_draw tmix (by kernel_rfl) ?_ | refine V_seq (V_seq_draw tmix (by kernel_rfl) ?_) | refine V_region ?_ | refine V_draw tmix (by kernel_rfl) ?_)
      repeat refine VO_d ?_
      (first | refine VO_nil ?_ | refine VQ_nil ?_)
      refine V_ret ?_
      exact ⟨trivial, ⟨_, rfl, congrArg U.b (deq_false.2 (by intro h; cases h; simp [deq_self] at hr3)).symm⟩, trivial⟩
    · cases hc
  repeat refine VO_d ?_
  cases hk4 : ((f4.length : Int) != (d4.length : Int))
  rotate_left
  · skip
    repeat refine VO_d ?_
    (first | refine VO_nil ?_ | refine VQ_nil ?_)
    (first | refine V_cond rfl (fun hc => ?_) (fun hc => ?_) | refine V_seq (V_cond rfl (fun hc => ?_) (fun hc => ?_)))
    · (first | refine V_seq_region ?_ | refine V_seq (V_seq_region ?_) | refine V_seq_draw tmix (by kernel_rfl) ?_ | refine V_seq (V_seq_draw tmix (by kernel_rfl) ?_) | refine V_region ?_ | refine V_draw tmix (by kernel_rfl) ?_)
      repeat refine VO_d ?_
      (first | refine VO_nil ?_ | refine VQ_nil ?_)
      refine V_ret ?_
      exact ⟨trivial, ⟨_, rfl, congrArg U.b (deq_false.2 (by intro h; cases h; simp [deq_self] at hk4)).symm⟩, trivial⟩
    · cases hc
  repeat refine VO_d ?_
  (first | refine VO_nil ?_ | refine VQ_nil ?_)
  (first | refine V_cond rfl (fun hc => ?_) (fun hc => ?_) | refine V_seq (V_cond rfl (fun hc => ?_) (fun hc => ?_)))
  · cases hc
  refine V_skip ?_
  clear hc
  have e0 : f0 = d0 := by simpa using hk0
  have e1 : f1 = d1 := by simpa using hk1
  have e2 : f2 = d2 := by simpa using hk2
  have e4 : f4.length = d4.length := by simp at hk4; omega
  clear hk0 hk1 hk2 hk4
  refine V_seq ?_
  (first | refine V_seq_region ?_ | refine V_seq (V_seq_region ?_) | refine V_seq_draw tmix (by kernel_rfl) ?_ | refine V_seq (V_seq_draw tmix (by kernel_rfl) ?_) | refine V_region ?_ | refine V_draw tmix (by kernel_rfl) ?_)
  repeat refine VO_d ?_
  (first | refine VO_nil ?_ | refine VQ_nil ?_)
  refine V_block ?_
  refine V_loop (α := Nat)
    (fun k => ⟨[(2, .ptr 0 0), (3, .ptr 1 0), (5, .d (.i .i64 k))], [.box [.d (.i .i64 f0), .d (.i .i64 f1), .d (.s f2), .d (.i .i64 c0), .d (.i .i64 c10), .d (.i .i64 c11), .d (.sl 1 c2), .d (.sl 5 c3), .d (.sl 9 f4)], .box [.d (.i .i64 d0), .d (.i .i64 d1), .d (.s d2), .d (.i .i64 g0), .d (.i .i64 g10), .d (.i .i64 g11), .d (.sl 1 g2), .d (.sl 5 g3), .d (.sl 9 d4)]], Tryd.f25.ntmps⟩)
    (fun k => k ≤ f4.length ∧ ∀ j, j < k → f4[j]? = d4[j]?)
    (fun k => f4.length - k) 0 ⟨rfl, ⟨⟨rfl, rfl⟩, ⟨rfl, rfl⟩, ⟨rfl, rfl⟩, trivial⟩, ⟨[], rfl⟩, rfl⟩ ⟨by simp, by simp⟩ ?_
  rintro k ⟨hk, hsame⟩
  (first | refine V_seq_region ?_ | refine V_seq (V_seq_region ?_) | refine V_seq_draw tmix (by kernel_rfl) ?_ | refine V_seq (V_seq_draw tmix (by kernel_rfl) ?_) | refine V_region ?_ | refine V_draw tmix (by kernel_rfl) ?_)
  repeat refine VO_d ?_
  (first | refine VO_nil ?_ | refine VQ_nil ?_)
  (first | refine V_cond rfl (fun hc2 => ?_) (fun hc2 => ?_) | refine V_seq (V_cond rfl (fun hc2 => ?_) (fun hc2 => ?_)))
  · refine V_skip ?_
    simp only [decide_eq_true_eq] at hc2
    have hkl : k < f4.length := by omega
    have hkv : k < d4.length := by omega
    have hget : f4[k]? = some f4[k] := List.getElem?_eq_getElem hkl
    have hgev : d4[k]? = some d4[k] := List.getElem?_eq_getElem hkv
    have hwa := hz4 _ (List.getElem_mem hkl)
    have hwb := hz4' _ (List.getElem_mem hkv)
    refine V_seq (V_block ?_)
    (first | refine V_seq_region ?_ | refine V_seq (V_seq_region ?_) | refine V_seq_draw tmix (by kernel_rfl) ?_ | refine V_seq (V_seq_draw tmix (by kernel_rfl) ?_) | refine V_region ?_ | refine V_draw tmix (by kernel_rfl) ?_)
    repeat (first | refine VO_d ?_ | refine VQ_d ?_)
    (first | refine VO_q (Q_index rfl rfl TE.h TI.h (by omega) hget) rfl ?_ | refine VQ_q (Q_index rfl rfl TE.h TI.h (by omega) hget) rfl ?_ | (refine VO_bare rfl rfl rfl rfl ?_; refine VO_q (Q_index rfl rfl TE.h TI.h (by omega) hget) rfl ?_) | refine VQ_run rfl rfl rfl rfl (Q_index rfl rfl TE.h TI.h (by omega) hget) rfl ?_)
    (first | refine VO_q (Q_load rfl TI.h (wt_isSt hwa) (wt_sz _ _ hwa)) rfl ?_ | refine VQ_q (Q_load rfl TI.h (wt_isSt hwa) (wt_sz _ _ hwa)) rfl ?_ | (refine VO_bare rfl rfl rfl rfl ?_; refine VO_q (Q_load rfl TI.h (wt_isSt hwa) (wt_sz _ _ hwa)) rfl ?_) | refine VQ_run rfl rfl rfl rfl (Q_load rfl TI.h (wt_isSt hwa) (wt_sz _ _ hwa)) rfl ?_)
    repeat (first | refine VO_d ?_ | refine VQ_d ?_)
    (first | refine VO_q (Q_index rfl rfl TE.h TI.h (by omega) hgev) rfl ?_ | refine VQ_q (Q_index rfl rfl TE.h TI.h (by omega) hgev) rfl ?_ | (refine VO_bare rfl rfl rfl rfl ?_; refine VO_q (Q_index rfl rfl TE.h TI.h (by omega) hgev) rfl ?_) | refine VQ_run rfl rfl rfl rfl (Q_index rfl rfl TE.h TI.h (by omega) hgev) rfl ?_)
    (first | refine VO_q (Q_load rfl TI.h (wt_isSt hwb) (wt_sz _ _ hwb)) rfl ?_ | refine VQ_q (Q_load rfl TI.h (wt_isSt hwb) (wt_sz _ _ hwb)) rfl ?_ | (refine VO_bare rfl rfl rfl rfl ?_; refine VO_q (Q_load rfl TI.h (wt_isSt hwb) (wt_sz _ _ hwb)) rfl ?_) | refine VQ_run rfl rfl rfl rfl (Q_load rfl TI.h (wt_isSt hwb) (wt_sz _ _ hwb)) rfl ?_)
    (first | refine VO_q (Q_call rfl (hI _ (List.getElem_mem hkl) _ (List.getElem_mem hkv)) (by (repeat (first | exact trivial | exact rfl | exact ⟨_, rfl⟩ | refine And.intro ?_ ?_)); first | done | fail)) rfl ?_ | refine VQ_q (Q_call rfl (hI _ (List.getElem_mem hkl) _ (List.getElem_mem hkv)) (by (repeat (first | exact trivial | exact rfl | exact ⟨_, rfl⟩ | refine And.intro ?_ ?_)); first | done | fail)) rfl ?_ | (refine VO_bare rfl rfl rfl rfl ?_; refine VO_q (Q_call rfl (hI _ (List.getElem_mem hkl) _ (List.getElem_mem hkv)) (by (repeat (first | exact trivial | exact rfl | exact ⟨_, rfl⟩ | refine And.intro ?_ ?_)); first | done | fail)) rfl ?_) | refine VQ_run rfl rfl rfl rfl (Q_call rfl (hI _ (List.getElem_mem hkl) _ (List.getElem_mem hkv)) (by (repeat (first | exact trivial | exact rfl | exact ⟨_, rfl⟩ | refine And.intro ?_ ?_)); first | done | fail)) rfl ?_)
    repeat (first | refine VO_d ?_ | refine VQ_d ?_)
    (first | refine VO_nil ?_ | refine VQ_nil ?_)
    (first | refine V_cond rfl (fun hc3 => ?_) (fun hc3 => ?_) | refine V_seq (V_cond rfl (fun hc3 => ?_) (fun hc3 => ?_)))
    · (first | refine V_seq_region ?_ | refine V_seq (V_seq_region ?_) | refine V_seq_draw tmix (by kernel_rfl) ?_ | refine V_seq (V_seq_draw tmix (by kernel_rfl) ?_) | refine V_region ?_ | refine V_draw tmix (by kernel_rfl) ?_)
      repeat refine VO_d ?_
      (first | refine VO_nil ?_ | refine VQ_nil ?_)
      refine V_ret ?_
      exact ⟨trivial, ⟨_, rfl, congrArg U.b (deq_false.2 (by intro h; cases h; rw [deq_self] at hc3; cases hc3)).symm⟩, trivial⟩
    refine V_skip ?_
    have heq : f4[k] = d4[k] := deq_true.1 (by simpa using hc3)
    (first | refine V_seq_region ?_ | refine V_seq (V_seq_region ?_) | refine V_seq_draw tmix (by kernel_rfl) ?_ | refine V_seq (V_seq_draw tmix (by kernel_rfl) ?_) | refine V_region ?_ | refine V_draw tmix (by kernel_rfl) ?_)
    repeat refine VO_d ?_
    (first | refine VO_nil ?_ | refine VQ_nil ?_)
    refine ⟨k + 1, ⟨by omega, fun j hj => ?_⟩, by omega, ⟨rfl, ⟨⟨rfl, rfl⟩, ⟨rfl, rfl⟩, ⟨rfl, rfl⟩, trivial⟩, ⟨[], rfl⟩, rfl⟩⟩
    by_cases hjk : j = k
    · subst hjk; rw [hget, hgev, heq]
    · exact hsame j (by omega)
  refine V_exit ?_
  simp only [decide_eq_false_iff_not] at hc2
  have hkl : k = f4.length := by omega
  subst hkl
  have hall : f4 = d4 := by
    apply List.ext_getElem?
    intro j
    by_cases hj : j < f4.length
    · exact hsame j hj
    · rw [List.getElem?_eq_none (by omega), List.getElem?_eq_none (by omega)]
  show V _ _ _ _ _
  (first | refine V_seq_region ?_ | refine V_seq (V_seq_region ?_) | refine V_seq_draw tmix (by kernel_rfl) ?_ | refine V_seq (V_seq_draw tmix (by kernel_rfl) ?_) | refine V_region ?_ | refine V_draw tmix (by kernel_rfl) ?_)
  repeat refine VO_d ?_
  (first | refine VO_nil ?_ | refine VQ_nil ?_)
  refine V_ret ?_
  exact ⟨trivial, ⟨_, rfl, congrArg U.b (deq_true.2 (by rw [e0, e1, e2, deq_true.1 hr3, hall])).symm⟩, trivial⟩

end Go.Proofs.YthojhakapbfbiaaDoor
