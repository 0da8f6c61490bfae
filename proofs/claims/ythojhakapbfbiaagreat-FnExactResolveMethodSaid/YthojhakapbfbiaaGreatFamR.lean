/- The contracts of the laws' own helpers (size checks, copies, comparisons). Written by a program of mine (fam.py). -/
import Derived.Test.YthojhakapbfbiaaGreatFacts
import Derived.Test.YthojhakapbfbiaaGreatEng48
import Derived.Test.YthojhakapbfbiaaGreatFamRa
set_option linter.unusedVariables false
set_option linter.unusedSimpArgs false
namespace Go.Proofs.YthojhakapbfbiaaGreat
open Go Go.Eng
attribute [local irreducible] V VO VQ Quiet SpecP
theorem eqExpr_step {f0 : Int} {f1 : List UInt8} {f2 : List UInt8} {f3 : Int} {f4 : U} {f5 : List U} {f6 : List U} {d0 : Int} {d1 : List UInt8} {d2 : List UInt8} {d3 : Int} {d4 : U} {d5 : List U} {d6 : List U} (h1 : f1.length ≤ big) (k1 : d1.length ≤ big) (h2 : f2.length ≤ big) (k2 : d2.length ≤ big) (g4 : wt (.st 1) f4) (j4 : wt (.st 1) d4) (h4 : PEq 103 f4 d4) (h5 : PEq 210 (.sl 9 f5) (.sl 9 d5)) (h6 : PEq 211 (.sl 11 f6) (.sl 11 d6)) : PEq 196 (.st [.i .i64 f0, .s f1, .s f2, .i .i64 f3, f4, .sl 9 f5, .sl 11 f6]) (.st [.i .i64 d0, .s d1, .s d2, .i .i64 d3, d4, .sl 9 d5, .sl 11 d6]) := by
  obtain ⟨e51_0, e51_1, e51_2, rfl, g51_0, g51_1, g51_2⟩ := inv_Type g4
  obtain ⟨e52_0, e52_1, e52_2, rfl, g52_0, g52_1, g52_2⟩ := inv_Type j4
  refine SpecP_intro Tryz.func196 rfl (by kernel_rfl) rfl fun A _ => ?_
  refine gGO ?_
  refine V_cond rfl (fun hc => ?_) (fun hc => ?_)
  · refine gREG ?_
    refine gGO ?_
    refine V_ret ?_
    exact ⟨trivial, ⟨_, rfl, congrArg U.b (deq_false.2 (by intro h; injection h with h; injection h with q0 h; injection q0 with _ hk; simp [hk] at hc)).symm⟩, trivial⟩
  refine V_skip ?_
  have e0 := (by simpa using hc : f0 = d0)
  clear hc
  refine gGO ?_
  refine V_cond rfl (fun hc => ?_) (fun hc => ?_)
  · refine gREG ?_
    refine gGO ?_
    refine V_ret ?_
    exact ⟨trivial, ⟨_, rfl, congrArg U.b (deq_false.2 (by intro h; injection h with h; injection h with q0 h; injection h with q1 h; injection q1 with hk; simp [hk] at hc)).symm⟩, trivial⟩
  refine V_skip ?_
  have e1 := (by simpa using hc : f1 = d1)
  clear hc
  refine gGO ?_
  refine V_cond rfl (fun hc => ?_) (fun hc => ?_)
  · refine gREG ?_
    refine gGO ?_
    refine V_ret ?_
    exact ⟨trivial, ⟨_, rfl, congrArg U.b (deq_false.2 (by intro h; injection h with h; injection h with q0 h; injection h with q1 h; injection h with q2 h; injection q2 with hk; simp [hk] at hc)).symm⟩, trivial⟩
  refine V_skip ?_
  have e2 := (by simpa using hc : f2 = d2)
  clear hc
  refine gGO ?_
  refine V_cond rfl (fun hc => ?_) (fun hc => ?_)
  · refine gREG ?_
    refine gGO ?_
    refine V_ret ?_
    exact ⟨trivial, ⟨_, rfl, congrArg U.b (deq_false.2 (by intro h; injection h with h; injection h with q0 h; injection h with q1 h; injection h with q2 h; injection h with q3 h; injection q3 with _ hk; simp [hk] at hc)).symm⟩, trivial⟩
  refine V_skip ?_
  have e3 := (by simpa using hc : f3 = d3)
  clear hc
  refine gGO ?_
  (first | refine VO_q (Q_call rfl h4 vA) rfl ?_ | refine VQ_q (Q_call rfl h4 vA) rfl ?_ | (refine VO_bare rfl rfl rfl rfl ?_; refine VO_q (Q_call rfl h4 vA) rfl ?_) | refine VQ_run rfl rfl rfl rfl (Q_call rfl h4 vA) rfl ?_)
  refine gGO ?_
  refine V_cond rfl (fun hc => ?_) (fun hc => ?_)
  · refine gREG ?_
    refine gGO ?_
    refine V_ret ?_
    exact ⟨trivial, ⟨_, rfl, congrArg U.b (deq_false.2 (by intro h; injection h with h; injection h with q0 h; injection h with q1 h; injection h with q2 h; injection h with q3 h; injection h with q4 h; rw [q4, deq_self] at hc; cases hc)).symm⟩, trivial⟩
  refine V_skip ?_
  have e4 := deq_true.1 (by simpa using hc : deq _ _ = true)
  clear hc
  refine gGO ?_
  (first | refine VO_q (Q_call rfl h5 vA) rfl ?_ | refine VQ_q (Q_call rfl h5 vA) rfl ?_ | (refine VO_bare rfl rfl rfl rfl ?_; refine VO_q (Q_call rfl h5 vA) rfl ?_) | refine VQ_run rfl rfl rfl rfl (Q_call rfl h5 vA) rfl ?_)
  refine gGO ?_
  refine V_cond rfl (fun hc => ?_) (fun hc => ?_)
  · refine gREG ?_
    refine gGO ?_
    refine V_ret ?_
    exact ⟨trivial, ⟨_, rfl, congrArg U.b (deq_false.2 (by intro h; injection h with h; injection h with q0 h; injection h with q1 h; injection h with q2 h; injection h with q3 h; injection h with q4 h; injection h with q5 h; rw [q5, deq_self] at hc; cases hc)).symm⟩, trivial⟩
  refine V_skip ?_
  have e5 := deq_true.1 (by simpa using hc : deq _ _ = true)
  clear hc
  refine gGO ?_
  (first | refine VO_q (Q_call rfl h6 vA) rfl ?_ | refine VQ_q (Q_call rfl h6 vA) rfl ?_ | (refine VO_bare rfl rfl rfl rfl ?_; refine VO_q (Q_call rfl h6 vA) rfl ?_) | refine VQ_run rfl rfl rfl rfl (Q_call rfl h6 vA) rfl ?_)
  refine gGO ?_
  refine V_cond rfl (fun hc => ?_) (fun hc => ?_)
  · refine gREG ?_
    refine gGO ?_
    refine V_ret ?_
    exact ⟨trivial, ⟨_, rfl, congrArg U.b (deq_false.2 (by intro h; injection h with h; injection h with q0 h; injection h with q1 h; injection h with q2 h; injection h with q3 h; injection h with q4 h; injection h with q5 h; injection h with q6 h; rw [q6, deq_self] at hc; cases hc)).symm⟩, trivial⟩
  refine V_skip ?_
  have e6 := deq_true.1 (by simpa using hc : deq _ _ = true)
  clear hc
  refine gGO ?_
  refine V_ret ?_
  exact ⟨trivial, ⟨_, rfl, congrArg U.b (deq_true.2 (by rw [e0, e1, e2, e3, e4, e5, e6])).symm⟩, trivial⟩
theorem eqExprS_step {us vs : List U} (hb1 : us.length ≤ big) (hb2 : vs.length ≤ big) (hz : ∀ a ∈ us, a.isSt = true ∧ a.sz = 9) (hz2 : ∀ a ∈ vs, a.isSt = true ∧ a.sz = 9) (ih : ∀ a ∈ us, ∀ b ∈ vs, PEq 196 a b) : PEq 210 (.sl 9 us) (.sl 9 vs) := by
  rw [big_eq] at hb1 hb2
  refine SpecP_intro Tryz.func210 rfl (by kernel_rfl) rfl fun A _ => ?_
  refine gGO ?_
  refine V_cond rfl (fun hc => ?_) (fun hc => ?_)
  · refine gREG ?_
    refine gGO ?_
    refine V_ret ?_
    exact ⟨trivial, ⟨_, rfl, congrArg U.b (deq_false.2 (by intro h; injection h with _ h; subst h; simp at hc)).symm⟩, trivial⟩
  refine V_skip ?_
  have hll : us.length = vs.length := by simp at hc; omega
  refine gGO ?_
  refine V_block ?_
  refine V_loop (α := Nat)
    (fun k => ⟨[(0, .d (.sl 9 us)), (1, .d (.sl 9 vs)), (5, .d (.i .i64 k))], [], Tryz.f210.ntmps⟩)
    (fun k => k ≤ us.length ∧ ∀ j, j < k → us[j]? = vs[j]?)
    (fun k => us.length - k) 0 ⟨rfl, ⟨⟨rfl, rfl⟩, ⟨rfl, rfl⟩, ⟨rfl, rfl⟩, trivial⟩, ⟨[], rfl⟩, rfl⟩ ⟨by simp, by simp⟩ ?_
  rintro k ⟨hk, hsame⟩
  refine gGO ?_
  refine V_cond rfl (fun hc2 => ?_) (fun hc2 => ?_)
  · refine V_skip ?_
    simp only [decide_eq_true_eq] at hc2
    have hkl : k < us.length := by omega
    have hkv : k < vs.length := by omega
    have hget : us[k]? = some us[k] := List.getElem?_eq_getElem hkl
    have hgev : vs[k]? = some vs[k] := List.getElem?_eq_getElem hkv
    have hmem : us[k] ∈ us := List.getElem_mem hkl
    have hmev : vs[k] ∈ vs := List.getElem_mem hkv
    obtain ⟨hst, hsz⟩ := hz _ hmem
    obtain ⟨hst2, hsz2⟩ := hz2 _ hmev
    refine V_seq (V_block ?_)
    refine gGO ?_
    (first | refine VO_q (Q_index rfl rfl TE.h TI.h (by omega) hget) rfl ?_ | refine VQ_q (Q_index rfl rfl TE.h TI.h (by omega) hget) rfl ?_ | (refine VO_bare rfl rfl rfl rfl ?_; refine VO_q (Q_index rfl rfl TE.h TI.h (by omega) hget) rfl ?_) | refine VQ_run rfl rfl rfl rfl (Q_index rfl rfl TE.h TI.h (by omega) hget) rfl ?_)
    (first | refine VO_q (Q_load rfl TI.h hst hsz) rfl ?_ | refine VQ_q (Q_load rfl TI.h hst hsz) rfl ?_ | (refine VO_bare rfl rfl rfl rfl ?_; refine VO_q (Q_load rfl TI.h hst hsz) rfl ?_) | refine VQ_run rfl rfl rfl rfl (Q_load rfl TI.h hst hsz) rfl ?_)
    refine gGO ?_
    (first | refine VO_q (Q_index rfl rfl TE.h TI.h (by omega) hgev) rfl ?_ | refine VQ_q (Q_index rfl rfl TE.h TI.h (by omega) hgev) rfl ?_ | (refine VO_bare rfl rfl rfl rfl ?_; refine VO_q (Q_index rfl rfl TE.h TI.h (by omega) hgev) rfl ?_) | refine VQ_run rfl rfl rfl rfl (Q_index rfl rfl TE.h TI.h (by omega) hgev) rfl ?_)
    (first | refine VO_q (Q_load rfl TI.h hst2 hsz2) rfl ?_ | refine VQ_q (Q_load rfl TI.h hst2 hsz2) rfl ?_ | (refine VO_bare rfl rfl rfl rfl ?_; refine VO_q (Q_load rfl TI.h hst2 hsz2) rfl ?_) | refine VQ_run rfl rfl rfl rfl (Q_load rfl TI.h hst2 hsz2) rfl ?_)
    (first | refine VO_q (Q_call rfl (ih _ hmem _ hmev) vA) rfl ?_ | refine VQ_q (Q_call rfl (ih _ hmem _ hmev) vA) rfl ?_ | (refine VO_bare rfl rfl rfl rfl ?_; refine VO_q (Q_call rfl (ih _ hmem _ hmev) vA) rfl ?_) | refine VQ_run rfl rfl rfl rfl (Q_call rfl (ih _ hmem _ hmev) vA) rfl ?_)
    refine gGO ?_
    refine V_cond rfl (fun hc3 => ?_) (fun hc3 => ?_)
    · refine gREG ?_
      refine gGO ?_
      refine V_ret ?_
      exact ⟨trivial, ⟨_, rfl, congrArg U.b (deq_false.2 (by intro h; injection h with _ h; subst h; rw [deq_self] at hc3; cases hc3)).symm⟩, trivial⟩
    refine V_skip ?_
    have heq : us[k] = vs[k] := deq_true.1 (by simpa using hc3)
    refine gGO ?_
    refine ⟨k + 1, ⟨by omega, fun j hj => ?_⟩, by omega, ⟨rfl, ⟨⟨rfl, rfl⟩, ⟨rfl, rfl⟩, ⟨rfl, rfl⟩, trivial⟩, ⟨[], rfl⟩, rfl⟩⟩
    by_cases hjk : j = k
    · subst hjk; rw [hget, hgev, heq]
    · exact hsame j (by omega)
  · refine V_exit ?_
    simp only [decide_eq_false_iff_not] at hc2
    have hkl : k = us.length := by omega
    subst hkl
    have hall : us = vs := by
      apply List.ext_getElem?
      intro j
      by_cases hj : j < us.length
      · exact hsame j hj
      · rw [List.getElem?_eq_none (by omega), List.getElem?_eq_none (by omega)]
    show V _ _ _ _ _
    refine gGO ?_
    refine V_ret ?_
    exact ⟨trivial, ⟨_, rfl, congrArg U.b (deq_true.2 (by rw [hall])).symm⟩, trivial⟩
theorem eqArmExpr_grp (u : U) : (∀ v, wt (.st 3) u → wt (.st 3) v → PEq 214 u v) ∧ (∀ v, wt (.st 4) u → wt (.st 4) v → PEq 196 u v) := by
  refine U.ind (M := fun u => (∀ v, wt (.st 3) u → wt (.st 3) v → PEq 214 u v) ∧ (∀ v, wt (.st 4) u → wt (.st 4) v → PEq 196 u v)) (fun u ih => ?_) u
  refine ⟨?_, ?_⟩
  · intro v h h2
    obtain ⟨f0, f1, f2, rfl, p0, p1, p2⟩ := inv_Arm h
    obtain ⟨d0, d1, d2, rfl, q0, q1, q2⟩ := inv_Arm h2
    exact eqArm_step p0 q0 (eqStringS_all p1 q1) p2 q2 ((ih f2 (by simp only [U.nn, U.nns]; omega)).2 _ p2 q2)
  · intro v h h2
    obtain ⟨f0, f1, f2, f3, f4, f5, f6, rfl, p0, p1, p2, p3, p4, p5, p6⟩ := inv_Expr h
    obtain ⟨d0, d1, d2, d3, d4, d5, d6, rfl, q0, q1, q2, q3, q4, q5, q6⟩ := inv_Expr h2
    exact eqExpr_step p1 q1 p2 q2 p4 q4 (eqType_all p4 q4) (eqExprS_step p5.1 q5.1 (fun a ha => ⟨wt_isSt (p5.2 a ha), by rw [wt_sz a _ (p5.2 a ha)]; rfl⟩) (fun a ha => ⟨wt_isSt (q5.2 a ha), by rw [wt_sz a _ (q5.2 a ha)]; rfl⟩) (fun a ha b hb => (ih a (by have := nn_of_mem ha; simp only [U.nn, U.nns]; omega)).2 b (p5.2 a ha) (q5.2 b hb))) (eqArmS_step p6.1 q6.1 (fun a ha => ⟨wt_isSt (p6.2 a ha), by rw [wt_sz a _ (p6.2 a ha)]; rfl⟩) (fun a ha => ⟨wt_isSt (q6.2 a ha), by rw [wt_sz a _ (q6.2 a ha)]; rfl⟩) (fun a ha b hb => (ih a (by have := nn_of_mem ha; simp only [U.nn, U.nns]; omega)).1 b (p6.2 a ha) (q6.2 b hb)))
theorem eqExpr_all {u v : U} (h : wt (.st 4) u) (h2 : wt (.st 4) v) : PEq 196 u v := (eqArmExpr_grp u).2 v h h2
theorem eqSignature_step {f0 : List UInt8} {f1 : List U} {f2 : U} {f3 : Bool} {f4 : List U} {f5 : U} {d0 : List UInt8} {d1 : List U} {d2 : U} {d3 : Bool} {d4 : List U} {d5 : U} (h0 : f0.length ≤ big) (k0 : d0.length ≤ big) (h1 : PEq 153 (.sl 3 f1) (.sl 3 d1)) (g2 : wt (.st 1) f2) (j2 : wt (.st 1) d2) (h2 : PEq 103 f2 d2) (h4 : PEq 100 (.sl 1 f4) (.sl 1 d4)) (g5 : wt (.st 4) f5) (j5 : wt (.st 4) d5) (h5 : PEq 196 f5 d5) : PEq 207 (.st [.s f0, .sl 3 f1, f2, .b f3, .sl 1 f4, f5]) (.st [.s d0, .sl 3 d1, d2, .b d3, .sl 1 d4, d5]) := by
  obtain ⟨e53_0, e53_1, e53_2, rfl, g53_0, g53_1, g53_2⟩ := inv_Type g2
  obtain ⟨e54_0, e54_1, e54_2, rfl, g54_0, g54_1, g54_2⟩ := inv_Type j2
  obtain ⟨e55_0, e55_1, e55_2, e55_3, e55_4, e55_5, e55_6, rfl, g55_0, g55_1, g55_2, g55_3, g55_4, g55_5, g55_6⟩ := inv_Expr g5
  obtain ⟨e56_0, e56_1, e56_2, rfl, g56_0, g56_1, g56_2⟩ := inv_Type g55_4
  obtain ⟨e57_0, e57_1, e57_2, e57_3, e57_4, e57_5, e57_6, rfl, g57_0, g57_1, g57_2, g57_3, g57_4, g57_5, g57_6⟩ := inv_Expr j5
  obtain ⟨e58_0, e58_1, e58_2, rfl, g58_0, g58_1, g58_2⟩ := inv_Type g57_4
  refine SpecP_intro Tryz.func207 rfl (by kernel_rfl) rfl fun A _ => ?_
  refine gGO ?_
  refine V_cond rfl (fun hc => ?_) (fun hc => ?_)
  · refine gREG ?_
    refine gGO ?_
    refine V_ret ?_
    exact ⟨trivial, ⟨_, rfl, congrArg U.b (deq_false.2 (by intro h; injection h with h; injection h with q0 h; injection q0 with hk; simp [hk] at hc)).symm⟩, trivial⟩
  refine V_skip ?_
  have e0 := (by simpa using hc : f0 = d0)
  clear hc
  refine gGO ?_
  (first | refine VO_q (Q_call rfl h1 vA) rfl ?_ | refine VQ_q (Q_call rfl h1 vA) rfl ?_ | (refine VO_bare rfl rfl rfl rfl ?_; refine VO_q (Q_call rfl h1 vA) rfl ?_) | refine VQ_run rfl rfl rfl rfl (Q_call rfl h1 vA) rfl ?_)
  refine gGO ?_
  refine V_cond rfl (fun hc => ?_) (fun hc => ?_)
  · refine gREG ?_
    refine gGO ?_
    refine V_ret ?_
    exact ⟨trivial, ⟨_, rfl, congrArg U.b (deq_false.2 (by intro h; injection h with h; injection h with q0 h; injection h with q1 h; rw [q1, deq_self] at hc; cases hc)).symm⟩, trivial⟩
  refine V_skip ?_
  have e1 := deq_true.1 (by simpa using hc : deq _ _ = true)
  clear hc
  refine gGO ?_
  (first | refine VO_q (Q_call rfl h2 vA) rfl ?_ | refine VQ_q (Q_call rfl h2 vA) rfl ?_ | (refine VO_bare rfl rfl rfl rfl ?_; refine VO_q (Q_call rfl h2 vA) rfl ?_) | refine VQ_run rfl rfl rfl rfl (Q_call rfl h2 vA) rfl ?_)
  refine gGO ?_
  refine V_cond rfl (fun hc => ?_) (fun hc => ?_)
  · refine gREG ?_
    refine gGO ?_
    refine V_ret ?_
    exact ⟨trivial, ⟨_, rfl, congrArg U.b (deq_false.2 (by intro h; injection h with h; injection h with q0 h; injection h with q1 h; injection h with q2 h; rw [q2, deq_self] at hc; cases hc)).symm⟩, trivial⟩
  refine V_skip ?_
  have e2 := deq_true.1 (by simpa using hc : deq _ _ = true)
  clear hc
  refine gGO ?_
  refine V_cond rfl (fun hc => ?_) (fun hc => ?_)
  · refine gREG ?_
    refine gGO ?_
    refine V_ret ?_
    exact ⟨trivial, ⟨_, rfl, congrArg U.b (deq_false.2 (by intro h; injection h with h; injection h with q0 h; injection h with q1 h; injection h with q2 h; injection h with q3 h; injection q3 with hk; simp [hk] at hc)).symm⟩, trivial⟩
  refine V_skip ?_
  have e3 := (by simpa using hc : f3 = d3)
  clear hc
  refine gGO ?_
  (first | refine VO_q (Q_call rfl h4 vA) rfl ?_ | refine VQ_q (Q_call rfl h4 vA) rfl ?_ | (refine VO_bare rfl rfl rfl rfl ?_; refine VO_q (Q_call rfl h4 vA) rfl ?_) | refine VQ_run rfl rfl rfl rfl (Q_call rfl h4 vA) rfl ?_)
  refine gGO ?_
  refine V_cond rfl (fun hc => ?_) (fun hc => ?_)
  · refine gREG ?_
    refine gGO ?_
    refine V_ret ?_
    exact ⟨trivial, ⟨_, rfl, congrArg U.b (deq_false.2 (by intro h; injection h with h; injection h with q0 h; injection h with q1 h; injection h with q2 h; injection h with q3 h; injection h with q4 h; rw [q4, deq_self] at hc; cases hc)).symm⟩, trivial⟩
  refine V_skip ?_
  have e4 := deq_true.1 (by simpa using hc : deq _ _ = true)
  clear hc
  refine gGO ?_
  (first | refine VO_q (Q_call rfl h5 vA) rfl ?_ | refine VQ_q (Q_call rfl h5 vA) rfl ?_ | (refine VO_bare rfl rfl rfl rfl ?_; refine VO_q (Q_call rfl h5 vA) rfl ?_) | refine VQ_run rfl rfl rfl rfl (Q_call rfl h5 vA) rfl ?_)
  refine gGO ?_
  refine V_cond rfl (fun hc => ?_) (fun hc => ?_)
  · refine gREG ?_
    refine gGO ?_
    refine V_ret ?_
    exact ⟨trivial, ⟨_, rfl, congrArg U.b (deq_false.2 (by intro h; injection h with h; injection h with q0 h; injection h with q1 h; injection h with q2 h; injection h with q3 h; injection h with q4 h; injection h with q5 h; rw [q5, deq_self] at hc; cases hc)).symm⟩, trivial⟩
  refine V_skip ?_
  have e5 := deq_true.1 (by simpa using hc : deq _ _ = true)
  clear hc
  refine gGO ?_
  refine V_ret ?_
  exact ⟨trivial, ⟨_, rfl, congrArg U.b (deq_true.2 (by rw [e0, e1, e2, e3, e4, e5])).symm⟩, trivial⟩
theorem eqSignatureS_step {us vs : List U} (hb1 : us.length ≤ big) (hb2 : vs.length ≤ big) (hz : ∀ a ∈ us, a.isSt = true ∧ a.sz = 16) (hz2 : ∀ a ∈ vs, a.isSt = true ∧ a.sz = 16) (ih : ∀ a ∈ us, ∀ b ∈ vs, PEq 207 a b) : PEq 193 (.sl 16 us) (.sl 16 vs) := by
  rw [big_eq] at hb1 hb2
  refine SpecP_intro Tryz.func193 rfl (by kernel_rfl) rfl fun A _ => ?_
  refine gGO ?_
  refine V_cond rfl (fun hc => ?_) (fun hc => ?_)
  · refine gREG ?_
    refine gGO ?_
    refine V_ret ?_
    exact ⟨trivial, ⟨_, rfl, congrArg U.b (deq_false.2 (by intro h; injection h with _ h; subst h; simp at hc)).symm⟩, trivial⟩
  refine V_skip ?_
  have hll : us.length = vs.length := by simp at hc; omega
  refine gGO ?_
  refine V_block ?_
  refine V_loop (α := Nat)
    (fun k => ⟨[(0, .d (.sl 16 us)), (1, .d (.sl 16 vs)), (5, .d (.i .i64 k))], [], Tryz.f193.ntmps⟩)
    (fun k => k ≤ us.length ∧ ∀ j, j < k → us[j]? = vs[j]?)
    (fun k => us.length - k) 0 ⟨rfl, ⟨⟨rfl, rfl⟩, ⟨rfl, rfl⟩, ⟨rfl, rfl⟩, trivial⟩, ⟨[], rfl⟩, rfl⟩ ⟨by simp, by simp⟩ ?_
  rintro k ⟨hk, hsame⟩
  refine gGO ?_
  refine V_cond rfl (fun hc2 => ?_) (fun hc2 => ?_)
  · refine V_skip ?_
    simp only [decide_eq_true_eq] at hc2
    have hkl : k < us.length := by omega
    have hkv : k < vs.length := by omega
    have hget : us[k]? = some us[k] := List.getElem?_eq_getElem hkl
    have hgev : vs[k]? = some vs[k] := List.getElem?_eq_getElem hkv
    have hmem : us[k] ∈ us := List.getElem_mem hkl
    have hmev : vs[k] ∈ vs := List.getElem_mem hkv
    obtain ⟨hst, hsz⟩ := hz _ hmem
    obtain ⟨hst2, hsz2⟩ := hz2 _ hmev
    refine V_seq (V_block ?_)
    refine gGO ?_
    (first | refine VO_q (Q_index rfl rfl TE.h TI.h (by omega) hget) rfl ?_ | refine VQ_q (Q_index rfl rfl TE.h TI.h (by omega) hget) rfl ?_ | (refine VO_bare rfl rfl rfl rfl ?_; refine VO_q (Q_index rfl rfl TE.h TI.h (by omega) hget) rfl ?_) | refine VQ_run rfl rfl rfl rfl (Q_index rfl rfl TE.h TI.h (by omega) hget) rfl ?_)
    (first | refine VO_q (Q_load rfl TI.h hst hsz) rfl ?_ | refine VQ_q (Q_load rfl TI.h hst hsz) rfl ?_ | (refine VO_bare rfl rfl rfl rfl ?_; refine VO_q (Q_load rfl TI.h hst hsz) rfl ?_) | refine VQ_run rfl rfl rfl rfl (Q_load rfl TI.h hst hsz) rfl ?_)
    refine gGO ?_
    (first | refine VO_q (Q_index rfl rfl TE.h TI.h (by omega) hgev) rfl ?_ | refine VQ_q (Q_index rfl rfl TE.h TI.h (by omega) hgev) rfl ?_ | (refine VO_bare rfl rfl rfl rfl ?_; refine VO_q (Q_index rfl rfl TE.h TI.h (by omega) hgev) rfl ?_) | refine VQ_run rfl rfl rfl rfl (Q_index rfl rfl TE.h TI.h (by omega) hgev) rfl ?_)
    (first | refine VO_q (Q_load rfl TI.h hst2 hsz2) rfl ?_ | refine VQ_q (Q_load rfl TI.h hst2 hsz2) rfl ?_ | (refine VO_bare rfl rfl rfl rfl ?_; refine VO_q (Q_load rfl TI.h hst2 hsz2) rfl ?_) | refine VQ_run rfl rfl rfl rfl (Q_load rfl TI.h hst2 hsz2) rfl ?_)
    (first | refine VO_q (Q_call rfl (ih _ hmem _ hmev) vA) rfl ?_ | refine VQ_q (Q_call rfl (ih _ hmem _ hmev) vA) rfl ?_ | (refine VO_bare rfl rfl rfl rfl ?_; refine VO_q (Q_call rfl (ih _ hmem _ hmev) vA) rfl ?_) | refine VQ_run rfl rfl rfl rfl (Q_call rfl (ih _ hmem _ hmev) vA) rfl ?_)
    refine gGO ?_
    refine V_cond rfl (fun hc3 => ?_) (fun hc3 => ?_)
    · refine gREG ?_
      refine gGO ?_
      refine V_ret ?_
      exact ⟨trivial, ⟨_, rfl, congrArg U.b (deq_false.2 (by intro h; injection h with _ h; subst h; rw [deq_self] at hc3; cases hc3)).symm⟩, trivial⟩
    refine V_skip ?_
    have heq : us[k] = vs[k] := deq_true.1 (by simpa using hc3)
    refine gGO ?_
    refine ⟨k + 1, ⟨by omega, fun j hj => ?_⟩, by omega, ⟨rfl, ⟨⟨rfl, rfl⟩, ⟨rfl, rfl⟩, ⟨rfl, rfl⟩, trivial⟩, ⟨[], rfl⟩, rfl⟩⟩
    by_cases hjk : j = k
    · subst hjk; rw [hget, hgev, heq]
    · exact hsame j (by omega)
  · refine V_exit ?_
    simp only [decide_eq_false_iff_not] at hc2
    have hkl : k = us.length := by omega
    subst hkl
    have hall : us = vs := by
      apply List.ext_getElem?
      intro j
      by_cases hj : j < us.length
      · exact hsame j hj
      · rw [List.getElem?_eq_none (by omega), List.getElem?_eq_none (by omega)]
    show V _ _ _ _ _
    refine gGO ?_
    refine V_ret ?_
    exact ⟨trivial, ⟨_, rfl, congrArg U.b (deq_true.2 (by rw [hall])).symm⟩, trivial⟩
theorem eqSignature_grp (u : U) : (∀ v, wt (.st 5) u → wt (.st 5) v → PEq 207 u v) := by
  refine U.ind (M := fun u => (∀ v, wt (.st 5) u → wt (.st 5) v → PEq 207 u v)) (fun u ih => ?_) u
  refine ?_
  · intro v h h2
    obtain ⟨f0, f1, f2, f3, f4, f5, rfl, p0, p1, p2, p4, p5⟩ := inv_Signature h
    obtain ⟨d0, d1, d2, d3, d4, d5, rfl, q0, q1, q2, q4, q5⟩ := inv_Signature h2
    exact eqSignature_step p0 q0 (eqTypeS_all p1 q1) p2 q2 (eqType_all p2 q2) (eqStringS_all p4 q4) p5 q5 (eqExpr_all p5 q5)
theorem eqSignature_all {u v : U} (h : wt (.st 5) u) (h2 : wt (.st 5) v) : PEq 207 u v := (eqSignature_grp u) v h h2
theorem eqSignatureS_all {us vs : List U} (h : us.length ≤ big ∧ ∀ x ∈ us, wt (.st 5) x) (h2 : vs.length ≤ big ∧ ∀ x ∈ vs, wt (.st 5) x) : PEq 193 (.sl 16 us) (.sl 16 vs) := eqSignatureS_step h.1 h2.1 (fun a ha => ⟨wt_isSt (h.2 a ha), by rw [wt_sz a _ (h.2 a ha)]; rfl⟩) (fun a ha => ⟨wt_isSt (h2.2 a ha), by rw [wt_sz a _ (h2.2 a ha)]; rfl⟩) (fun a ha b hb => eqSignature_all (h.2 a ha) (h2.2 b hb))
theorem eqTrait_step {f0 : List UInt8} {f1 : List U} {f2 : Bool} {f3 : Bool} {f4 : List U} {d0 : List UInt8} {d1 : List U} {d2 : Bool} {d3 : Bool} {d4 : List U} (h0 : f0.length ≤ big) (k0 : d0.length ≤ big) (h1 : PEq 100 (.sl 1 f1) (.sl 1 d1)) (h4 : PEq 193 (.sl 16 f4) (.sl 16 d4)) : PEq 174 (.st [.s f0, .sl 1 f1, .b f2, .b f3, .sl 16 f4]) (.st [.s d0, .sl 1 d1, .b d2, .b d3, .sl 16 d4]) := by
  refine SpecP_intro Tryz.func174 rfl (by kernel_rfl) rfl fun A _ => ?_
  refine gGO ?_
  refine V_cond rfl (fun hc => ?_) (fun hc => ?_)
  · refine gREG ?_
    refine gGO ?_
    refine V_ret ?_
    exact ⟨trivial, ⟨_, rfl, congrArg U.b (deq_false.2 (by intro h; injection h with h; injection h with q0 h; injection q0 with hk; simp [hk] at hc)).symm⟩, trivial⟩
  refine V_skip ?_
  have e0 := (by simpa using hc : f0 = d0)
  clear hc
  refine gGO ?_
  (first | refine VO_q (Q_call rfl h1 vA) rfl ?_ | refine VQ_q (Q_call rfl h1 vA) rfl ?_ | (refine VO_bare rfl rfl rfl rfl ?_; refine VO_q (Q_call rfl h1 vA) rfl ?_) | refine VQ_run rfl rfl rfl rfl (Q_call rfl h1 vA) rfl ?_)
  refine gGO ?_
  refine V_cond rfl (fun hc => ?_) (fun hc => ?_)
  · refine gREG ?_
    refine gGO ?_
    refine V_ret ?_
    exact ⟨trivial, ⟨_, rfl, congrArg U.b (deq_false.2 (by intro h; injection h with h; injection h with q0 h; injection h with q1 h; rw [q1, deq_self] at hc; cases hc)).symm⟩, trivial⟩
  refine V_skip ?_
  have e1 := deq_true.1 (by simpa using hc : deq _ _ = true)
  clear hc
  refine gGO ?_
  refine V_cond rfl (fun hc => ?_) (fun hc => ?_)
  · refine gREG ?_
    refine gGO ?_
    refine V_ret ?_
    exact ⟨trivial, ⟨_, rfl, congrArg U.b (deq_false.2 (by intro h; injection h with h; injection h with q0 h; injection h with q1 h; injection h with q2 h; injection q2 with hk; simp [hk] at hc)).symm⟩, trivial⟩
  refine V_skip ?_
  have e2 := (by simpa using hc : f2 = d2)
  clear hc
  refine gGO ?_
  refine V_cond rfl (fun hc => ?_) (fun hc => ?_)
  · refine gREG ?_
    refine gGO ?_
    refine V_ret ?_
    exact ⟨trivial, ⟨_, rfl, congrArg U.b (deq_false.2 (by intro h; injection h with h; injection h with q0 h; injection h with q1 h; injection h with q2 h; injection h with q3 h; injection q3 with hk; simp [hk] at hc)).symm⟩, trivial⟩
  refine V_skip ?_
  have e3 := (by simpa using hc : f3 = d3)
  clear hc
  refine gGO ?_
  (first | refine VO_q (Q_call rfl h4 vA) rfl ?_ | refine VQ_q (Q_call rfl h4 vA) rfl ?_ | (refine VO_bare rfl rfl rfl rfl ?_; refine VO_q (Q_call rfl h4 vA) rfl ?_) | refine VQ_run rfl rfl rfl rfl (Q_call rfl h4 vA) rfl ?_)
  refine gGO ?_
  refine V_cond rfl (fun hc => ?_) (fun hc => ?_)
  · refine gREG ?_
    refine gGO ?_
    refine V_ret ?_
    exact ⟨trivial, ⟨_, rfl, congrArg U.b (deq_false.2 (by intro h; injection h with h; injection h with q0 h; injection h with q1 h; injection h with q2 h; injection h with q3 h; injection h with q4 h; rw [q4, deq_self] at hc; cases hc)).symm⟩, trivial⟩
  refine V_skip ?_
  have e4 := deq_true.1 (by simpa using hc : deq _ _ = true)
  clear hc
  refine gGO ?_
  refine V_ret ?_
  exact ⟨trivial, ⟨_, rfl, congrArg U.b (deq_true.2 (by rw [e0, e1, e2, e3, e4])).symm⟩, trivial⟩
theorem eqTraitS_step {us vs : List U} (hb1 : us.length ≤ big) (hb2 : vs.length ≤ big) (hz : ∀ a ∈ us, a.isSt = true ∧ a.sz = 5) (hz2 : ∀ a ∈ vs, a.isSt = true ∧ a.sz = 5) (ih : ∀ a ∈ us, ∀ b ∈ vs, PEq 174 a b) : PEq 122 (.sl 5 us) (.sl 5 vs) := by
  rw [big_eq] at hb1 hb2
  refine SpecP_intro Tryz.func122 rfl (by kernel_rfl) rfl fun A _ => ?_
  refine gGO ?_
  refine V_cond rfl (fun hc => ?_) (fun hc => ?_)
  · refine gREG ?_
    refine gGO ?_
    refine V_ret ?_
    exact ⟨trivial, ⟨_, rfl, congrArg U.b (deq_false.2 (by intro h; injection h with _ h; subst h; simp at hc)).symm⟩, trivial⟩
  refine V_skip ?_
  have hll : us.length = vs.length := by simp at hc; omega
  refine gGO ?_
  refine V_block ?_
  refine V_loop (α := Nat)
    (fun k => ⟨[(0, .d (.sl 5 us)), (1, .d (.sl 5 vs)), (5, .d (.i .i64 k))], [], Tryz.f122.ntmps⟩)
    (fun k => k ≤ us.length ∧ ∀ j, j < k → us[j]? = vs[j]?)
    (fun k => us.length - k) 0 ⟨rfl, ⟨⟨rfl, rfl⟩, ⟨rfl, rfl⟩, ⟨rfl, rfl⟩, trivial⟩, ⟨[], rfl⟩, rfl⟩ ⟨by simp, by simp⟩ ?_
  rintro k ⟨hk, hsame⟩
  refine gGO ?_
  refine V_cond rfl (fun hc2 => ?_) (fun hc2 => ?_)
  · refine V_skip ?_
    simp only [decide_eq_true_eq] at hc2
    have hkl : k < us.length := by omega
    have hkv : k < vs.length := by omega
    have hget : us[k]? = some us[k] := List.getElem?_eq_getElem hkl
    have hgev : vs[k]? = some vs[k] := List.getElem?_eq_getElem hkv
    have hmem : us[k] ∈ us := List.getElem_mem hkl
    have hmev : vs[k] ∈ vs := List.getElem_mem hkv
    obtain ⟨hst, hsz⟩ := hz _ hmem
    obtain ⟨hst2, hsz2⟩ := hz2 _ hmev
    refine V_seq (V_block ?_)
    refine gGO ?_
    (first | refine VO_q (Q_index rfl rfl TE.h TI.h (by omega) hget) rfl ?_ | refine VQ_q (Q_index rfl rfl TE.h TI.h (by omega) hget) rfl ?_ | (refine VO_bare rfl rfl rfl rfl ?_; refine VO_q (Q_index rfl rfl TE.h TI.h (by omega) hget) rfl ?_) | refine VQ_run rfl rfl rfl rfl (Q_index rfl rfl TE.h TI.h (by omega) hget) rfl ?_)
    (first | refine VO_q (Q_load rfl TI.h hst hsz) rfl ?_ | refine VQ_q (Q_load rfl TI.h hst hsz) rfl ?_ | (refine VO_bare rfl rfl rfl rfl ?_; refine VO_q (Q_load rfl TI.h hst hsz) rfl ?_) | refine VQ_run rfl rfl rfl rfl (Q_load rfl TI.h hst hsz) rfl ?_)
    refine gGO ?_
    (first | refine VO_q (Q_index rfl rfl TE.h TI.h (by omega) hgev) rfl ?_ | refine VQ_q (Q_index rfl rfl TE.h TI.h (by omega) hgev) rfl ?_ | (refine VO_bare rfl rfl rfl rfl ?_; refine VO_q (Q_index rfl rfl TE.h TI.h (by omega) hgev) rfl ?_) | refine VQ_run rfl rfl rfl rfl (Q_index rfl rfl TE.h TI.h (by omega) hgev) rfl ?_)
    (first | refine VO_q (Q_load rfl TI.h hst2 hsz2) rfl ?_ | refine VQ_q (Q_load rfl TI.h hst2 hsz2) rfl ?_ | (refine VO_bare rfl rfl rfl rfl ?_; refine VO_q (Q_load rfl TI.h hst2 hsz2) rfl ?_) | refine VQ_run rfl rfl rfl rfl (Q_load rfl TI.h hst2 hsz2) rfl ?_)
    (first | refine VO_q (Q_call rfl (ih _ hmem _ hmev) vA) rfl ?_ | refine VQ_q (Q_call rfl (ih _ hmem _ hmev) vA) rfl ?_ | (refine VO_bare rfl rfl rfl rfl ?_; refine VO_q (Q_call rfl (ih _ hmem _ hmev) vA) rfl ?_) | refine VQ_run rfl rfl rfl rfl (Q_call rfl (ih _ hmem _ hmev) vA) rfl ?_)
    refine gGO ?_
    refine V_cond rfl (fun hc3 => ?_) (fun hc3 => ?_)
    · refine gREG ?_
      refine gGO ?_
      refine V_ret ?_
      exact ⟨trivial, ⟨_, rfl, congrArg U.b (deq_false.2 (by intro h; injection h with _ h; subst h; rw [deq_self] at hc3; cases hc3)).symm⟩, trivial⟩
    refine V_skip ?_
    have heq : us[k] = vs[k] := deq_true.1 (by simpa using hc3)
    refine gGO ?_
    refine ⟨k + 1, ⟨by omega, fun j hj => ?_⟩, by omega, ⟨rfl, ⟨⟨rfl, rfl⟩, ⟨rfl, rfl⟩, ⟨rfl, rfl⟩, trivial⟩, ⟨[], rfl⟩, rfl⟩⟩
    by_cases hjk : j = k
    · subst hjk; rw [hget, hgev, heq]
    · exact hsame j (by omega)
  · refine V_exit ?_
    simp only [decide_eq_false_iff_not] at hc2
    have hkl : k = us.length := by omega
    subst hkl
    have hall : us = vs := by
      apply List.ext_getElem?
      intro j
      by_cases hj : j < us.length
      · exact hsame j hj
      · rw [List.getElem?_eq_none (by omega), List.getElem?_eq_none (by omega)]
    show V _ _ _ _ _
    refine gGO ?_
    refine V_ret ?_
    exact ⟨trivial, ⟨_, rfl, congrArg U.b (deq_true.2 (by rw [hall])).symm⟩, trivial⟩
theorem eqTrait_grp (u : U) : (∀ v, wt (.st 6) u → wt (.st 6) v → PEq 174 u v) := by
  refine U.ind (M := fun u => (∀ v, wt (.st 6) u → wt (.st 6) v → PEq 174 u v)) (fun u ih => ?_) u
  refine ?_
  · intro v h h2
    obtain ⟨f0, f1, f2, f3, f4, rfl, p0, p1, p4⟩ := inv_Trait h
    obtain ⟨d0, d1, d2, d3, d4, rfl, q0, q1, q4⟩ := inv_Trait h2
    exact eqTrait_step p0 q0 (eqStringS_all p1 q1) (eqSignatureS_all p4 q4)
theorem eqTrait_all {u v : U} (h : wt (.st 6) u) (h2 : wt (.st 6) v) : PEq 174 u v := (eqTrait_grp u) v h h2
theorem eqTraitS_all {us vs : List U} (h : us.length ≤ big ∧ ∀ x ∈ us, wt (.st 6) x) (h2 : vs.length ≤ big ∧ ∀ x ∈ vs, wt (.st 6) x) : PEq 122 (.sl 5 us) (.sl 5 vs) := eqTraitS_step h.1 h2.1 (fun a ha => ⟨wt_isSt (h.2 a ha), by rw [wt_sz a _ (h.2 a ha)]; rfl⟩) (fun a ha => ⟨wt_isSt (h2.2 a ha), by rw [wt_sz a _ (h2.2 a ha)]; rfl⟩) (fun a ha b hb => eqTrait_all (h.2 a ha) (h2.2 b hb))
theorem eqConstructor_step {f0 : List UInt8} {f1 : List U} {d0 : List UInt8} {d1 : List U} (h0 : f0.length ≤ big) (k0 : d0.length ≤ big) (h1 : PEq 153 (.sl 3 f1) (.sl 3 d1)) : PEq 208 (.st [.s f0, .sl 3 f1]) (.st [.s d0, .sl 3 d1]) := by
  refine SpecP_intro Tryz.func208 rfl (by kernel_rfl) rfl fun A _ => ?_
  refine gGO ?_
  refine V_cond rfl (fun hc => ?_) (fun hc => ?_)
  · refine gREG ?_
    refine gGO ?_
    refine V_ret ?_
    exact ⟨trivial, ⟨_, rfl, congrArg U.b (deq_false.2 (by intro h; injection h with h; injection h with q0 h; injection q0 with hk; simp [hk] at hc)).symm⟩, trivial⟩
  refine V_skip ?_
  have e0 := (by simpa using hc : f0 = d0)
  clear hc
  refine gGO ?_
  (first | refine VO_q (Q_call rfl h1 vA) rfl ?_ | refine VQ_q (Q_call rfl h1 vA) rfl ?_ | (refine VO_bare rfl rfl rfl rfl ?_; refine VO_q (Q_call rfl h1 vA) rfl ?_) | refine VQ_run rfl rfl rfl rfl (Q_call rfl h1 vA) rfl ?_)
  refine gGO ?_
  refine V_cond rfl (fun hc => ?_) (fun hc => ?_)
  · refine gREG ?_
    refine gGO ?_
    refine V_ret ?_
    exact ⟨trivial, ⟨_, rfl, congrArg U.b (deq_false.2 (by intro h; injection h with h; injection h with q0 h; injection h with q1 h; rw [q1, deq_self] at hc; cases hc)).symm⟩, trivial⟩
  refine V_skip ?_
  have e1 := deq_true.1 (by simpa using hc : deq _ _ = true)
  clear hc
  refine gGO ?_
  refine V_ret ?_
  exact ⟨trivial, ⟨_, rfl, congrArg U.b (deq_true.2 (by rw [e0, e1])).symm⟩, trivial⟩
theorem eqConstructorS_step {us vs : List U} (hb1 : us.length ≤ big) (hb2 : vs.length ≤ big) (hz : ∀ a ∈ us, a.isSt = true ∧ a.sz = 2) (hz2 : ∀ a ∈ vs, a.isSt = true ∧ a.sz = 2) (ih : ∀ a ∈ us, ∀ b ∈ vs, PEq 208 a b) : PEq 194 (.sl 2 us) (.sl 2 vs) := by
  rw [big_eq] at hb1 hb2
  refine SpecP_intro Tryz.func194 rfl (by kernel_rfl) rfl fun A _ => ?_
  refine gGO ?_
  refine V_cond rfl (fun hc => ?_) (fun hc => ?_)
  · refine gREG ?_
    refine gGO ?_
    refine V_ret ?_
    exact ⟨trivial, ⟨_, rfl, congrArg U.b (deq_false.2 (by intro h; injection h with _ h; subst h; simp at hc)).symm⟩, trivial⟩
  refine V_skip ?_
  have hll : us.length = vs.length := by simp at hc; omega
  refine gGO ?_
  refine V_block ?_
  refine V_loop (α := Nat)
    (fun k => ⟨[(0, .d (.sl 2 us)), (1, .d (.sl 2 vs)), (5, .d (.i .i64 k))], [], Tryz.f194.ntmps⟩)
    (fun k => k ≤ us.length ∧ ∀ j, j < k → us[j]? = vs[j]?)
    (fun k => us.length - k) 0 ⟨rfl, ⟨⟨rfl, rfl⟩, ⟨rfl, rfl⟩, ⟨rfl, rfl⟩, trivial⟩, ⟨[], rfl⟩, rfl⟩ ⟨by simp, by simp⟩ ?_
  rintro k ⟨hk, hsame⟩
  refine gGO ?_
  refine V_cond rfl (fun hc2 => ?_) (fun hc2 => ?_)
  · refine V_skip ?_
    simp only [decide_eq_true_eq] at hc2
    have hkl : k < us.length := by omega
    have hkv : k < vs.length := by omega
    have hget : us[k]? = some us[k] := List.getElem?_eq_getElem hkl
    have hgev : vs[k]? = some vs[k] := List.getElem?_eq_getElem hkv
    have hmem : us[k] ∈ us := List.getElem_mem hkl
    have hmev : vs[k] ∈ vs := List.getElem_mem hkv
    obtain ⟨hst, hsz⟩ := hz _ hmem
    obtain ⟨hst2, hsz2⟩ := hz2 _ hmev
    refine V_seq (V_block ?_)
    refine gGO ?_
    (first | refine VO_q (Q_index rfl rfl TE.h TI.h (by omega) hget) rfl ?_ | refine VQ_q (Q_index rfl rfl TE.h TI.h (by omega) hget) rfl ?_ | (refine VO_bare rfl rfl rfl rfl ?_; refine VO_q (Q_index rfl rfl TE.h TI.h (by omega) hget) rfl ?_) | refine VQ_run rfl rfl rfl rfl (Q_index rfl rfl TE.h TI.h (by omega) hget) rfl ?_)
    (first | refine VO_q (Q_load rfl TI.h hst hsz) rfl ?_ | refine VQ_q (Q_load rfl TI.h hst hsz) rfl ?_ | (refine VO_bare rfl rfl rfl rfl ?_; refine VO_q (Q_load rfl TI.h hst hsz) rfl ?_) | refine VQ_run rfl rfl rfl rfl (Q_load rfl TI.h hst hsz) rfl ?_)
    refine gGO ?_
    (first | refine VO_q (Q_index rfl rfl TE.h TI.h (by omega) hgev) rfl ?_ | refine VQ_q (Q_index rfl rfl TE.h TI.h (by omega) hgev) rfl ?_ | (refine VO_bare rfl rfl rfl rfl ?_; refine VO_q (Q_index rfl rfl TE.h TI.h (by omega) hgev) rfl ?_) | refine VQ_run rfl rfl rfl rfl (Q_index rfl rfl TE.h TI.h (by omega) hgev) rfl ?_)
    (first | refine VO_q (Q_load rfl TI.h hst2 hsz2) rfl ?_ | refine VQ_q (Q_load rfl TI.h hst2 hsz2) rfl ?_ | (refine VO_bare rfl rfl rfl rfl ?_; refine VO_q (Q_load rfl TI.h hst2 hsz2) rfl ?_) | refine VQ_run rfl rfl rfl rfl (Q_load rfl TI.h hst2 hsz2) rfl ?_)
    (first | refine VO_q (Q_call rfl (ih _ hmem _ hmev) vA) rfl ?_ | refine VQ_q (Q_call rfl (ih _ hmem _ hmev) vA) rfl ?_ | (refine VO_bare rfl rfl rfl rfl ?_; refine VO_q (Q_call rfl (ih _ hmem _ hmev) vA) rfl ?_) | refine VQ_run rfl rfl rfl rfl (Q_call rfl (ih _ hmem _ hmev) vA) rfl ?_)
    refine gGO ?_
    refine V_cond rfl (fun hc3 => ?_) (fun hc3 => ?_)
    · refine gREG ?_
      refine gGO ?_
      refine V_ret ?_
      exact ⟨trivial, ⟨_, rfl, congrArg U.b (deq_false.2 (by intro h; injection h with _ h; subst h; rw [deq_self] at hc3; cases hc3)).symm⟩, trivial⟩
    refine V_skip ?_
    have heq : us[k] = vs[k] := deq_true.1 (by simpa using hc3)
    refine gGO ?_
    refine ⟨k + 1, ⟨by omega, fun j hj => ?_⟩, by omega, ⟨rfl, ⟨⟨rfl, rfl⟩, ⟨rfl, rfl⟩, ⟨rfl, rfl⟩, trivial⟩, ⟨[], rfl⟩, rfl⟩⟩
    by_cases hjk : j = k
    · subst hjk; rw [hget, hgev, heq]
    · exact hsame j (by omega)
  · refine V_exit ?_
    simp only [decide_eq_false_iff_not] at hc2
    have hkl : k = us.length := by omega
    subst hkl
    have hall : us = vs := by
      apply List.ext_getElem?
      intro j
      by_cases hj : j < us.length
      · exact hsame j hj
      · rw [List.getElem?_eq_none (by omega), List.getElem?_eq_none (by omega)]
    show V _ _ _ _ _
    refine gGO ?_
    refine V_ret ?_
    exact ⟨trivial, ⟨_, rfl, congrArg U.b (deq_true.2 (by rw [hall])).symm⟩, trivial⟩
theorem eqConstructor_grp (u : U) : (∀ v, wt (.st 7) u → wt (.st 7) v → PEq 208 u v) := by
  refine U.ind (M := fun u => (∀ v, wt (.st 7) u → wt (.st 7) v → PEq 208 u v)) (fun u ih => ?_) u
  refine ?_
  · intro v h h2
    obtain ⟨f0, f1, rfl, p0, p1⟩ := inv_Constructor h
    obtain ⟨d0, d1, rfl, q0, q1⟩ := inv_Constructor h2
    exact eqConstructor_step p0 q0 (eqTypeS_all p1 q1)
theorem eqConstructor_all {u v : U} (h : wt (.st 7) u) (h2 : wt (.st 7) v) : PEq 208 u v := (eqConstructor_grp u) v h h2
theorem eqConstructorS_all {us vs : List U} (h : us.length ≤ big ∧ ∀ x ∈ us, wt (.st 7) x) (h2 : vs.length ≤ big ∧ ∀ x ∈ vs, wt (.st 7) x) : PEq 194 (.sl 2 us) (.sl 2 vs) := eqConstructorS_step h.1 h2.1 (fun a ha => ⟨wt_isSt (h.2 a ha), by rw [wt_sz a _ (h.2 a ha)]; rfl⟩) (fun a ha => ⟨wt_isSt (h2.2 a ha), by rw [wt_sz a _ (h2.2 a ha)]; rfl⟩) (fun a ha b hb => eqConstructor_all (h.2 a ha) (h2.2 b hb))
theorem eqDataType_step {f0 : List UInt8} {f1 : List U} {f2 : List U} {d0 : List UInt8} {d1 : List U} {d2 : List U} (h0 : f0.length ≤ big) (k0 : d0.length ≤ big) (h1 : PEq 100 (.sl 1 f1) (.sl 1 d1)) (h2 : PEq 194 (.sl 2 f2) (.sl 2 d2)) : PEq 175 (.st [.s f0, .sl 1 f1, .sl 2 f2]) (.st [.s d0, .sl 1 d1, .sl 2 d2]) := by
  refine SpecP_intro Tryz.func175 rfl (by kernel_rfl) rfl fun A _ => ?_
  refine gGO ?_
  refine V_cond rfl (fun hc => ?_) (fun hc => ?_)
  · refine gREG ?_
    refine gGO ?_
    refine V_ret ?_
    exact ⟨trivial, ⟨_, rfl, congrArg U.b (deq_false.2 (by intro h; injection h with h; injection h with q0 h; injection q0 with hk; simp [hk] at hc)).symm⟩, trivial⟩
  refine V_skip ?_
  have e0 := (by simpa using hc : f0 = d0)
  clear hc
  refine gGO ?_
  (first | refine VO_q (Q_call rfl h1 vA) rfl ?_ | refine VQ_q (Q_call rfl h1 vA) rfl ?_ | (refine VO_bare rfl rfl rfl rfl ?_; refine VO_q (Q_call rfl h1 vA) rfl ?_) | refine VQ_run rfl rfl rfl rfl (Q_call rfl h1 vA) rfl ?_)
  refine gGO ?_
  refine V_cond rfl (fun hc => ?_) (fun hc => ?_)
  · refine gREG ?_
    refine gGO ?_
    refine V_ret ?_
    exact ⟨trivial, ⟨_, rfl, congrArg U.b (deq_false.2 (by intro h; injection h with h; injection h with q0 h; injection h with q1 h; rw [q1, deq_self] at hc; cases hc)).symm⟩, trivial⟩
  refine V_skip ?_
  have e1 := deq_true.1 (by simpa using hc : deq _ _ = true)
  clear hc
  refine gGO ?_
  (first | refine VO_q (Q_call rfl h2 vA) rfl ?_ | refine VQ_q (Q_call rfl h2 vA) rfl ?_ | (refine VO_bare rfl rfl rfl rfl ?_; refine VO_q (Q_call rfl h2 vA) rfl ?_) | refine VQ_run rfl rfl rfl rfl (Q_call rfl h2 vA) rfl ?_)
  refine gGO ?_
  refine V_cond rfl (fun hc => ?_) (fun hc => ?_)
  · refine gREG ?_
    refine gGO ?_
    refine V_ret ?_
    exact ⟨trivial, ⟨_, rfl, congrArg U.b (deq_false.2 (by intro h; injection h with h; injection h with q0 h; injection h with q1 h; injection h with q2 h; rw [q2, deq_self] at hc; cases hc)).symm⟩, trivial⟩
  refine V_skip ?_
  have e2 := deq_true.1 (by simpa using hc : deq _ _ = true)
  clear hc
  refine gGO ?_
  refine V_ret ?_
  exact ⟨trivial, ⟨_, rfl, congrArg U.b (deq_true.2 (by rw [e0, e1, e2])).symm⟩, trivial⟩
theorem eqDataTypeS_step {us vs : List U} (hb1 : us.length ≤ big) (hb2 : vs.length ≤ big) (hz : ∀ a ∈ us, a.isSt = true ∧ a.sz = 3) (hz2 : ∀ a ∈ vs, a.isSt = true ∧ a.sz = 3) (ih : ∀ a ∈ us, ∀ b ∈ vs, PEq 175 a b) : PEq 123 (.sl 3 us) (.sl 3 vs) := by
  rw [big_eq] at hb1 hb2
  refine SpecP_intro Tryz.func123 rfl (by kernel_rfl) rfl fun A _ => ?_
  refine gGO ?_
  refine V_cond rfl (fun hc => ?_) (fun hc => ?_)
  · refine gREG ?_
    refine gGO ?_
    refine V_ret ?_
    exact ⟨trivial, ⟨_, rfl, congrArg U.b (deq_false.2 (by intro h; injection h with _ h; subst h; simp at hc)).symm⟩, trivial⟩
  refine V_skip ?_
  have hll : us.length = vs.length := by simp at hc; omega
  refine gGO ?_
  refine V_block ?_
  refine V_loop (α := Nat)
    (fun k => ⟨[(0, .d (.sl 3 us)), (1, .d (.sl 3 vs)), (5, .d (.i .i64 k))], [], Tryz.f123.ntmps⟩)
    (fun k => k ≤ us.length ∧ ∀ j, j < k → us[j]? = vs[j]?)
    (fun k => us.length - k) 0 ⟨rfl, ⟨⟨rfl, rfl⟩, ⟨rfl, rfl⟩, ⟨rfl, rfl⟩, trivial⟩, ⟨[], rfl⟩, rfl⟩ ⟨by simp, by simp⟩ ?_
  rintro k ⟨hk, hsame⟩
  refine gGO ?_
  refine V_cond rfl (fun hc2 => ?_) (fun hc2 => ?_)
  · refine V_skip ?_
    simp only [decide_eq_true_eq] at hc2
    have hkl : k < us.length := by omega
    have hkv : k < vs.length := by omega
    have hget : us[k]? = some us[k] := List.getElem?_eq_getElem hkl
    have hgev : vs[k]? = some vs[k] := List.getElem?_eq_getElem hkv
    have hmem : us[k] ∈ us := List.getElem_mem hkl
    have hmev : vs[k] ∈ vs := List.getElem_mem hkv
    obtain ⟨hst, hsz⟩ := hz _ hmem
    obtain ⟨hst2, hsz2⟩ := hz2 _ hmev
    refine V_seq (V_block ?_)
    refine gGO ?_
    (first | refine VO_q (Q_index rfl rfl TE.h TI.h (by omega) hget) rfl ?_ | refine VQ_q (Q_index rfl rfl TE.h TI.h (by omega) hget) rfl ?_ | (refine VO_bare rfl rfl rfl rfl ?_; refine VO_q (Q_index rfl rfl TE.h TI.h (by omega) hget) rfl ?_) | refine VQ_run rfl rfl rfl rfl (Q_index rfl rfl TE.h TI.h (by omega) hget) rfl ?_)
    (first | refine VO_q (Q_load rfl TI.h hst hsz) rfl ?_ | refine VQ_q (Q_load rfl TI.h hst hsz) rfl ?_ | (refine VO_bare rfl rfl rfl rfl ?_; refine VO_q (Q_load rfl TI.h hst hsz) rfl ?_) | refine VQ_run rfl rfl rfl rfl (Q_load rfl TI.h hst hsz) rfl ?_)
    refine gGO ?_
    (first | refine VO_q (Q_index rfl rfl TE.h TI.h (by omega) hgev) rfl ?_ | refine VQ_q (Q_index rfl rfl TE.h TI.h (by omega) hgev) rfl ?_ | (refine VO_bare rfl rfl rfl rfl ?_; refine VO_q (Q_index rfl rfl TE.h TI.h (by omega) hgev) rfl ?_) | refine VQ_run rfl rfl rfl rfl (Q_index rfl rfl TE.h TI.h (by omega) hgev) rfl ?_)
    (first | refine VO_q (Q_load rfl TI.h hst2 hsz2) rfl ?_ | refine VQ_q (Q_load rfl TI.h hst2 hsz2) rfl ?_ | (refine VO_bare rfl rfl rfl rfl ?_; refine VO_q (Q_load rfl TI.h hst2 hsz2) rfl ?_) | refine VQ_run rfl rfl rfl rfl (Q_load rfl TI.h hst2 hsz2) rfl ?_)
    (first | refine VO_q (Q_call rfl (ih _ hmem _ hmev) vA) rfl ?_ | refine VQ_q (Q_call rfl (ih _ hmem _ hmev) vA) rfl ?_ | (refine VO_bare rfl rfl rfl rfl ?_; refine VO_q (Q_call rfl (ih _ hmem _ hmev) vA) rfl ?_) | refine VQ_run rfl rfl rfl rfl (Q_call rfl (ih _ hmem _ hmev) vA) rfl ?_)
    refine gGO ?_
    refine V_cond rfl (fun hc3 => ?_) (fun hc3 => ?_)
    · refine gREG ?_
      refine gGO ?_
      refine V_ret ?_
      exact ⟨trivial, ⟨_, rfl, congrArg U.b (deq_false.2 (by intro h; injection h with _ h; subst h; rw [deq_self] at hc3; cases hc3)).symm⟩, trivial⟩
    refine V_skip ?_
    have heq : us[k] = vs[k] := deq_true.1 (by simpa using hc3)
    refine gGO ?_
    refine ⟨k + 1, ⟨by omega, fun j hj => ?_⟩, by omega, ⟨rfl, ⟨⟨rfl, rfl⟩, ⟨rfl, rfl⟩, ⟨rfl, rfl⟩, trivial⟩, ⟨[], rfl⟩, rfl⟩⟩
    by_cases hjk : j = k
    · subst hjk; rw [hget, hgev, heq]
    · exact hsame j (by omega)
  · refine V_exit ?_
    simp only [decide_eq_false_iff_not] at hc2
    have hkl : k = us.length := by omega
    subst hkl
    have hall : us = vs := by
      apply List.ext_getElem?
      intro j
      by_cases hj : j < us.length
      · exact hsame j hj
      · rw [List.getElem?_eq_none (by omega), List.getElem?_eq_none (by omega)]
    show V _ _ _ _ _
    refine gGO ?_
    refine V_ret ?_
    exact ⟨trivial, ⟨_, rfl, congrArg U.b (deq_true.2 (by rw [hall])).symm⟩, trivial⟩
theorem eqDataType_grp (u : U) : (∀ v, wt (.st 8) u → wt (.st 8) v → PEq 175 u v) := by
  refine U.ind (M := fun u => (∀ v, wt (.st 8) u → wt (.st 8) v → PEq 175 u v)) (fun u ih => ?_) u
  refine ?_
  · intro v h h2
    obtain ⟨f0, f1, f2, rfl, p0, p1, p2⟩ := inv_DataType h
    obtain ⟨d0, d1, d2, rfl, q0, q1, q2⟩ := inv_DataType h2
    exact eqDataType_step p0 q0 (eqStringS_all p1 q1) (eqConstructorS_all p2 q2)
theorem eqDataType_all {u v : U} (h : wt (.st 8) u) (h2 : wt (.st 8) v) : PEq 175 u v := (eqDataType_grp u) v h h2
theorem eqDataTypeS_all {us vs : List U} (h : us.length ≤ big ∧ ∀ x ∈ us, wt (.st 8) x) (h2 : vs.length ≤ big ∧ ∀ x ∈ vs, wt (.st 8) x) : PEq 123 (.sl 3 us) (.sl 3 vs) := eqDataTypeS_step h.1 h2.1 (fun a ha => ⟨wt_isSt (h.2 a ha), by rw [wt_sz a _ (h.2 a ha)]; rfl⟩) (fun a ha => ⟨wt_isSt (h2.2 a ha), by rw [wt_sz a _ (h2.2 a ha)]; rfl⟩) (fun a ha b hb => eqDataType_all (h.2 a ha) (h2.2 b hb))
theorem eqBound_step {f0 : List UInt8} {f1 : U} {d0 : List UInt8} {d1 : U} (h0 : f0.length ≤ big) (k0 : d0.length ≤ big) (g1 : wt (.st 1) f1) (j1 : wt (.st 1) d1) (h1 : PEq 103 f1 d1) : PEq 151 (.st [.s f0, f1]) (.st [.s d0, d1]) := by
  obtain ⟨e59_0, e59_1, e59_2, rfl, g59_0, g59_1, g59_2⟩ := inv_Type g1
  obtain ⟨e60_0, e60_1, e60_2, rfl, g60_0, g60_1, g60_2⟩ := inv_Type j1
  refine SpecP_intro Tryz.func151 rfl (by kernel_rfl) rfl fun A _ => ?_
  refine gGO ?_
  refine V_cond rfl (fun hc => ?_) (fun hc => ?_)
  · refine gREG ?_
    refine gGO ?_
    refine V_ret ?_
    exact ⟨trivial, ⟨_, rfl, congrArg U.b (deq_false.2 (by intro h; injection h with h; injection h with q0 h; injection q0 with hk; simp [hk] at hc)).symm⟩, trivial⟩
  refine V_skip ?_
  have e0 := (by simpa using hc : f0 = d0)
  clear hc
  refine gGO ?_
  (first | refine VO_q (Q_call rfl h1 vA) rfl ?_ | refine VQ_q (Q_call rfl h1 vA) rfl ?_ | (refine VO_bare rfl rfl rfl rfl ?_; refine VO_q (Q_call rfl h1 vA) rfl ?_) | refine VQ_run rfl rfl rfl rfl (Q_call rfl h1 vA) rfl ?_)
  refine gGO ?_
  refine V_cond rfl (fun hc => ?_) (fun hc => ?_)
  · refine gREG ?_
    refine gGO ?_
    refine V_ret ?_
    exact ⟨trivial, ⟨_, rfl, congrArg U.b (deq_false.2 (by intro h; injection h with h; injection h with q0 h; injection h with q1 h; rw [q1, deq_self] at hc; cases hc)).symm⟩, trivial⟩
  refine V_skip ?_
  have e1 := deq_true.1 (by simpa using hc : deq _ _ = true)
  clear hc
  refine gGO ?_
  refine V_ret ?_
  exact ⟨trivial, ⟨_, rfl, congrArg U.b (deq_true.2 (by rw [e0, e1])).symm⟩, trivial⟩
theorem eqBoundS_step {us vs : List U} (hb1 : us.length ≤ big) (hb2 : vs.length ≤ big) (hz : ∀ a ∈ us, a.isSt = true ∧ a.sz = 4) (hz2 : ∀ a ∈ vs, a.isSt = true ∧ a.sz = 4) (ih : ∀ a ∈ us, ∀ b ∈ vs, PEq 151 a b) : PEq 101 (.sl 4 us) (.sl 4 vs) := by
  rw [big_eq] at hb1 hb2
  refine SpecP_intro Tryz.func101 rfl (by kernel_rfl) rfl fun A _ => ?_
  refine gGO ?_
  refine V_cond rfl (fun hc => ?_) (fun hc => ?_)
  · refine gREG ?_
    refine gGO ?_
    refine V_ret ?_
    exact ⟨trivial, ⟨_, rfl, congrArg U.b (deq_false.2 (by intro h; injection h with _ h; subst h; simp at hc)).symm⟩, trivial⟩
  refine V_skip ?_
  have hll : us.length = vs.length := by simp at hc; omega
  refine gGO ?_
  refine V_block ?_
  refine V_loop (α := Nat)
    (fun k => ⟨[(0, .d (.sl 4 us)), (1, .d (.sl 4 vs)), (5, .d (.i .i64 k))], [], Tryz.f101.ntmps⟩)
    (fun k => k ≤ us.length ∧ ∀ j, j < k → us[j]? = vs[j]?)
    (fun k => us.length - k) 0 ⟨rfl, ⟨⟨rfl, rfl⟩, ⟨rfl, rfl⟩, ⟨rfl, rfl⟩, trivial⟩, ⟨[], rfl⟩, rfl⟩ ⟨by simp, by simp⟩ ?_
  rintro k ⟨hk, hsame⟩
  refine gGO ?_
  refine V_cond rfl (fun hc2 => ?_) (fun hc2 => ?_)
  · refine V_skip ?_
    simp only [decide_eq_true_eq] at hc2
    have hkl : k < us.length := by omega
    have hkv : k < vs.length := by omega
    have hget : us[k]? = some us[k] := List.getElem?_eq_getElem hkl
    have hgev : vs[k]? = some vs[k] := List.getElem?_eq_getElem hkv
    have hmem : us[k] ∈ us := List.getElem_mem hkl
    have hmev : vs[k] ∈ vs := List.getElem_mem hkv
    obtain ⟨hst, hsz⟩ := hz _ hmem
    obtain ⟨hst2, hsz2⟩ := hz2 _ hmev
    refine V_seq (V_block ?_)
    refine gGO ?_
    (first | refine VO_q (Q_index rfl rfl TE.h TI.h (by omega) hget) rfl ?_ | refine VQ_q (Q_index rfl rfl TE.h TI.h (by omega) hget) rfl ?_ | (refine VO_bare rfl rfl rfl rfl ?_; refine VO_q (Q_index rfl rfl TE.h TI.h (by omega) hget) rfl ?_) | refine VQ_run rfl rfl rfl rfl (Q_index rfl rfl TE.h TI.h (by omega) hget) rfl ?_)
    (first | refine VO_q (Q_load rfl TI.h hst hsz) rfl ?_ | refine VQ_q (Q_load rfl TI.h hst hsz) rfl ?_ | (refine VO_bare rfl rfl rfl rfl ?_; refine VO_q (Q_load rfl TI.h hst hsz) rfl ?_) | refine VQ_run rfl rfl rfl rfl (Q_load rfl TI.h hst hsz) rfl ?_)
    refine gGO ?_
    (first | refine VO_q (Q_index rfl rfl TE.h TI.h (by omega) hgev) rfl ?_ | refine VQ_q (Q_index rfl rfl TE.h TI.h (by omega) hgev) rfl ?_ | (refine VO_bare rfl rfl rfl rfl ?_; refine VO_q (Q_index rfl rfl TE.h TI.h (by omega) hgev) rfl ?_) | refine VQ_run rfl rfl rfl rfl (Q_index rfl rfl TE.h TI.h (by omega) hgev) rfl ?_)
    (first | refine VO_q (Q_load rfl TI.h hst2 hsz2) rfl ?_ | refine VQ_q (Q_load rfl TI.h hst2 hsz2) rfl ?_ | (refine VO_bare rfl rfl rfl rfl ?_; refine VO_q (Q_load rfl TI.h hst2 hsz2) rfl ?_) | refine VQ_run rfl rfl rfl rfl (Q_load rfl TI.h hst2 hsz2) rfl ?_)
    (first | refine VO_q (Q_call rfl (ih _ hmem _ hmev) vA) rfl ?_ | refine VQ_q (Q_call rfl (ih _ hmem _ hmev) vA) rfl ?_ | (refine VO_bare rfl rfl rfl rfl ?_; refine VO_q (Q_call rfl (ih _ hmem _ hmev) vA) rfl ?_) | refine VQ_run rfl rfl rfl rfl (Q_call rfl (ih _ hmem _ hmev) vA) rfl ?_)
    refine gGO ?_
    refine V_cond rfl (fun hc3 => ?_) (fun hc3 => ?_)
    · refine gREG ?_
      refine gGO ?_
      refine V_ret ?_
      exact ⟨trivial, ⟨_, rfl, congrArg U.b (deq_false.2 (by intro h; injection h with _ h; subst h; rw [deq_self] at hc3; cases hc3)).symm⟩, trivial⟩
    refine V_skip ?_
    have heq : us[k] = vs[k] := deq_true.1 (by simpa using hc3)
    refine gGO ?_
    refine ⟨k + 1, ⟨by omega, fun j hj => ?_⟩, by omega, ⟨rfl, ⟨⟨rfl, rfl⟩, ⟨rfl, rfl⟩, ⟨rfl, rfl⟩, trivial⟩, ⟨[], rfl⟩, rfl⟩⟩
    by_cases hjk : j = k
    · subst hjk; rw [hget, hgev, heq]
    · exact hsame j (by omega)
  · refine V_exit ?_
    simp only [decide_eq_false_iff_not] at hc2
    have hkl : k = us.length := by omega
    subst hkl
    have hall : us = vs := by
      apply List.ext_getElem?
      intro j
      by_cases hj : j < us.length
      · exact hsame j hj
      · rw [List.getElem?_eq_none (by omega), List.getElem?_eq_none (by omega)]
    show V _ _ _ _ _
    refine gGO ?_
    refine V_ret ?_
    exact ⟨trivial, ⟨_, rfl, congrArg U.b (deq_true.2 (by rw [hall])).symm⟩, trivial⟩
theorem eqBound_grp (u : U) : (∀ v, wt (.st 9) u → wt (.st 9) v → PEq 151 u v) := by
  refine U.ind (M := fun u => (∀ v, wt (.st 9) u → wt (.st 9) v → PEq 151 u v)) (fun u ih => ?_) u
  refine ?_
  · intro v h h2
    obtain ⟨f0, f1, rfl, p0, p1⟩ := inv_Bound h
    obtain ⟨d0, d1, rfl, q0, q1⟩ := inv_Bound h2
    exact eqBound_step p0 q0 p1 q1 (eqType_all p1 q1)
theorem eqBound_all {u v : U} (h : wt (.st 9) u) (h2 : wt (.st 9) v) : PEq 151 u v := (eqBound_grp u) v h h2
theorem eqBoundS_all {us vs : List U} (h : us.length ≤ big ∧ ∀ x ∈ us, wt (.st 9) x) (h2 : vs.length ≤ big ∧ ∀ x ∈ vs, wt (.st 9) x) : PEq 101 (.sl 4 us) (.sl 4 vs) := eqBoundS_step h.1 h2.1 (fun a ha => ⟨wt_isSt (h.2 a ha), by rw [wt_sz a _ (h.2 a ha)]; rfl⟩) (fun a ha => ⟨wt_isSt (h2.2 a ha), by rw [wt_sz a _ (h2.2 a ha)]; rfl⟩) (fun a ha b hb => eqBound_all (h.2 a ha) (h2.2 b hb))
theorem eqMethod_step {f0 : List UInt8} {f1 : List U} {f2 : U} {d0 : List UInt8} {d1 : List U} {d2 : U} (h0 : f0.length ≤ big) (k0 : d0.length ≤ big) (h1 : PEq 100 (.sl 1 f1) (.sl 1 d1)) (g2 : wt (.st 4) f2) (j2 : wt (.st 4) d2) (h2 : PEq 196 f2 d2) : PEq 209 (.st [.s f0, .sl 1 f1, f2]) (.st [.s d0, .sl 1 d1, d2]) := by
  obtain ⟨e61_0, e61_1, e61_2, e61_3, e61_4, e61_5, e61_6, rfl, g61_0, g61_1, g61_2, g61_3, g61_4, g61_5, g61_6⟩ := inv_Expr g2
  obtain ⟨e62_0, e62_1, e62_2, rfl, g62_0, g62_1, g62_2⟩ := inv_Type g61_4
  obtain ⟨e63_0, e63_1, e63_2, e63_3, e63_4, e63_5, e63_6, rfl, g63_0, g63_1, g63_2, g63_3, g63_4, g63_5, g63_6⟩ := inv_Expr j2
  obtain ⟨e64_0, e64_1, e64_2, rfl, g64_0, g64_1, g64_2⟩ := inv_Type g63_4
  refine SpecP_intro Tryz.func209 rfl (by kernel_rfl) rfl fun A _ => ?_
  refine gGO ?_
  refine V_cond rfl (fun hc => ?_) (fun hc => ?_)
  · refine gREG ?_
    refine gGO ?_
    refine V_ret ?_
    exact ⟨trivial, ⟨_, rfl, congrArg U.b (deq_false.2 (by intro h; injection h with h; injection h with q0 h; injection q0 with hk; simp [hk] at hc)).symm⟩, trivial⟩
  refine V_skip ?_
  have e0 := (by simpa using hc : f0 = d0)
  clear hc
  refine gGO ?_
  (first | refine VO_q (Q_call rfl h1 vA) rfl ?_ | refine VQ_q (Q_call rfl h1 vA) rfl ?_ | (refine VO_bare rfl rfl rfl rfl ?_; refine VO_q (Q_call rfl h1 vA) rfl ?_) | refine VQ_run rfl rfl rfl rfl (Q_call rfl h1 vA) rfl ?_)
  refine gGO ?_
  refine V_cond rfl (fun hc => ?_) (fun hc => ?_)
  · refine gREG ?_
    refine gGO ?_
    refine V_ret ?_
    exact ⟨trivial, ⟨_, rfl, congrArg U.b (deq_false.2 (by intro h; injection h with h; injection h with q0 h; injection h with q1 h; rw [q1, deq_self] at hc; cases hc)).symm⟩, trivial⟩
  refine V_skip ?_
  have e1 := deq_true.1 (by simpa using hc : deq _ _ = true)
  clear hc
  refine gGO ?_
  (first | refine VO_q (Q_call rfl h2 vA) rfl ?_ | refine VQ_q (Q_call rfl h2 vA) rfl ?_ | (refine VO_bare rfl rfl rfl rfl ?_; refine VO_q (Q_call rfl h2 vA) rfl ?_) | refine VQ_run rfl rfl rfl rfl (Q_call rfl h2 vA) rfl ?_)
  refine gGO ?_
  refine V_cond rfl (fun hc => ?_) (fun hc => ?_)
  · refine gREG ?_
    refine gGO ?_
    refine V_ret ?_
    exact ⟨trivial, ⟨_, rfl, congrArg U.b (deq_false.2 (by intro h; injection h with h; injection h with q0 h; injection h with q1 h; injection h with q2 h; rw [q2, deq_self] at hc; cases hc)).symm⟩, trivial⟩
  refine V_skip ?_
  have e2 := deq_true.1 (by simpa using hc : deq _ _ = true)
  clear hc
  refine gGO ?_
  refine V_ret ?_
  exact ⟨trivial, ⟨_, rfl, congrArg U.b (deq_true.2 (by rw [e0, e1, e2])).symm⟩, trivial⟩
theorem eqMethodS_step {us vs : List U} (hb1 : us.length ≤ big) (hb2 : vs.length ≤ big) (hz : ∀ a ∈ us, a.isSt = true ∧ a.sz = 11) (hz2 : ∀ a ∈ vs, a.isSt = true ∧ a.sz = 11) (ih : ∀ a ∈ us, ∀ b ∈ vs, PEq 209 a b) : PEq 195 (.sl 11 us) (.sl 11 vs) := by
  rw [big_eq] at hb1 hb2
  refine SpecP_intro Tryz.func195 rfl (by kernel_rfl) rfl fun A _ => ?_
  refine gGO ?_
  refine V_cond rfl (fun hc => ?_) (fun hc => ?_)
  · refine gREG ?_
    refine gGO ?_
    refine V_ret ?_
    exact ⟨trivial, ⟨_, rfl, congrArg U.b (deq_false.2 (by intro h; injection h with _ h; subst h; simp at hc)).symm⟩, trivial⟩
  refine V_skip ?_
  have hll : us.length = vs.length := by simp at hc; omega
  refine gGO ?_
  refine V_block ?_
  refine V_loop (α := Nat)
    (fun k => ⟨[(0, .d (.sl 11 us)), (1, .d (.sl 11 vs)), (5, .d (.i .i64 k))], [], Tryz.f195.ntmps⟩)
    (fun k => k ≤ us.length ∧ ∀ j, j < k → us[j]? = vs[j]?)
    (fun k => us.length - k) 0 ⟨rfl, ⟨⟨rfl, rfl⟩, ⟨rfl, rfl⟩, ⟨rfl, rfl⟩, trivial⟩, ⟨[], rfl⟩, rfl⟩ ⟨by simp, by simp⟩ ?_
  rintro k ⟨hk, hsame⟩
  refine gGO ?_
  refine V_cond rfl (fun hc2 => ?_) (fun hc2 => ?_)
  · refine V_skip ?_
    simp only [decide_eq_true_eq] at hc2
    have hkl : k < us.length := by omega
    have hkv : k < vs.length := by omega
    have hget : us[k]? = some us[k] := List.getElem?_eq_getElem hkl
    have hgev : vs[k]? = some vs[k] := List.getElem?_eq_getElem hkv
    have hmem : us[k] ∈ us := List.getElem_mem hkl
    have hmev : vs[k] ∈ vs := List.getElem_mem hkv
    obtain ⟨hst, hsz⟩ := hz _ hmem
    obtain ⟨hst2, hsz2⟩ := hz2 _ hmev
    refine V_seq (V_block ?_)
    refine gGO ?_
    (first | refine VO_q (Q_index rfl rfl TE.h TI.h (by omega) hget) rfl ?_ | refine VQ_q (Q_index rfl rfl TE.h TI.h (by omega) hget) rfl ?_ | (refine VO_bare rfl rfl rfl rfl ?_; refine VO_q (Q_index rfl rfl TE.h TI.h (by omega) hget) rfl ?_) | refine VQ_run rfl rfl rfl rfl (Q_index rfl rfl TE.h TI.h (by omega) hget) rfl ?_)
    (first | refine VO_q (Q_load rfl TI.h hst hsz) rfl ?_ | refine VQ_q (Q_load rfl TI.h hst hsz) rfl ?_ | (refine VO_bare rfl rfl rfl rfl ?_; refine VO_q (Q_load rfl TI.h hst hsz) rfl ?_) | refine VQ_run rfl rfl rfl rfl (Q_load rfl TI.h hst hsz) rfl ?_)
    refine gGO ?_
    (first | refine VO_q (Q_index rfl rfl TE.h TI.h (by omega) hgev) rfl ?_ | refine VQ_q (Q_index rfl rfl TE.h TI.h (by omega) hgev) rfl ?_ | (refine VO_bare rfl rfl rfl rfl ?_; refine VO_q (Q_index rfl rfl TE.h TI.h (by omega) hgev) rfl ?_) | refine VQ_run rfl rfl rfl rfl (Q_index rfl rfl TE.h TI.h (by omega) hgev) rfl ?_)
    (first | refine VO_q (Q_load rfl TI.h hst2 hsz2) rfl ?_ | refine VQ_q (Q_load rfl TI.h hst2 hsz2) rfl ?_ | (refine VO_bare rfl rfl rfl rfl ?_; refine VO_q (Q_load rfl TI.h hst2 hsz2) rfl ?_) | refine VQ_run rfl rfl rfl rfl (Q_load rfl TI.h hst2 hsz2) rfl ?_)
    (first | refine VO_q (Q_call rfl (ih _ hmem _ hmev) vA) rfl ?_ | refine VQ_q (Q_call rfl (ih _ hmem _ hmev) vA) rfl ?_ | (refine VO_bare rfl rfl rfl rfl ?_; refine VO_q (Q_call rfl (ih _ hmem _ hmev) vA) rfl ?_) | refine VQ_run rfl rfl rfl rfl (Q_call rfl (ih _ hmem _ hmev) vA) rfl ?_)
    refine gGO ?_
    refine V_cond rfl (fun hc3 => ?_) (fun hc3 => ?_)
    · refine gREG ?_
      refine gGO ?_
      refine V_ret ?_
      exact ⟨trivial, ⟨_, rfl, congrArg U.b (deq_false.2 (by intro h; injection h with _ h; subst h; rw [deq_self] at hc3; cases hc3)).symm⟩, trivial⟩
    refine V_skip ?_
    have heq : us[k] = vs[k] := deq_true.1 (by simpa using hc3)
    refine gGO ?_
    refine ⟨k + 1, ⟨by omega, fun j hj => ?_⟩, by omega, ⟨rfl, ⟨⟨rfl, rfl⟩, ⟨rfl, rfl⟩, ⟨rfl, rfl⟩, trivial⟩, ⟨[], rfl⟩, rfl⟩⟩
    by_cases hjk : j = k
    · subst hjk; rw [hget, hgev, heq]
    · exact hsame j (by omega)
  · refine V_exit ?_
    simp only [decide_eq_false_iff_not] at hc2
    have hkl : k = us.length := by omega
    subst hkl
    have hall : us = vs := by
      apply List.ext_getElem?
      intro j
      by_cases hj : j < us.length
      · exact hsame j hj
      · rw [List.getElem?_eq_none (by omega), List.getElem?_eq_none (by omega)]
    show V _ _ _ _ _
    refine gGO ?_
    refine V_ret ?_
    exact ⟨trivial, ⟨_, rfl, congrArg U.b (deq_true.2 (by rw [hall])).symm⟩, trivial⟩
theorem eqMethod_grp (u : U) : (∀ v, wt (.st 10) u → wt (.st 10) v → PEq 209 u v) := by
  refine U.ind (M := fun u => (∀ v, wt (.st 10) u → wt (.st 10) v → PEq 209 u v)) (fun u ih => ?_) u
  refine ?_
  · intro v h h2
    obtain ⟨f0, f1, f2, rfl, p0, p1, p2⟩ := inv_Method h
    obtain ⟨d0, d1, d2, rfl, q0, q1, q2⟩ := inv_Method h2
    exact eqMethod_step p0 q0 (eqStringS_all p1 q1) p2 q2 (eqExpr_all p2 q2)
theorem eqMethod_all {u v : U} (h : wt (.st 10) u) (h2 : wt (.st 10) v) : PEq 209 u v := (eqMethod_grp u) v h h2
theorem eqMethodS_all {us vs : List U} (h : us.length ≤ big ∧ ∀ x ∈ us, wt (.st 10) x) (h2 : vs.length ≤ big ∧ ∀ x ∈ vs, wt (.st 10) x) : PEq 195 (.sl 11 us) (.sl 11 vs) := eqMethodS_step h.1 h2.1 (fun a ha => ⟨wt_isSt (h.2 a ha), by rw [wt_sz a _ (h.2 a ha)]; rfl⟩) (fun a ha => ⟨wt_isSt (h2.2 a ha), by rw [wt_sz a _ (h2.2 a ha)]; rfl⟩) (fun a ha b hb => eqMethod_all (h.2 a ha) (h2.2 b hb))
theorem eqInstance_step {f0 : List UInt8} {f1 : List U} {f2 : U} {f3 : List U} {f4 : Bool} {f5 : Bool} {f6 : U} {f7 : List U} {d0 : List UInt8} {d1 : List U} {d2 : U} {d3 : List U} {d4 : Bool} {d5 : Bool} {d6 : U} {d7 : List U} (h0 : f0.length ≤ big) (k0 : d0.length ≤ big) (h1 : PEq 100 (.sl 1 f1) (.sl 1 d1)) (g2 : wt (.st 1) f2) (j2 : wt (.st 1) d2) (h2 : PEq 103 f2 d2) (h3 : PEq 101 (.sl 4 f3) (.sl 4 d3)) (g6 : wt (.st 1) f6) (j6 : wt (.st 1) d6) (h6 : PEq 103 f6 d6) (h7 : PEq 195 (.sl 11 f7) (.sl 11 d7)) : PEq 176 (.st [.s f0, .sl 1 f1, f2, .sl 4 f3, .b f4, .b f5, f6, .sl 11 f7]) (.st [.s d0, .sl 1 d1, d2, .sl 4 d3, .b d4, .b d5, d6, .sl 11 d7]) := by
  obtain ⟨e65_0, e65_1, e65_2, rfl, g65_0, g65_1, g65_2⟩ := inv_Type g2
  obtain ⟨e66_0, e66_1, e66_2, rfl, g66_0, g66_1, g66_2⟩ := inv_Type j2
  obtain ⟨e67_0, e67_1, e67_2, rfl, g67_0, g67_1, g67_2⟩ := inv_Type g6
  obtain ⟨e68_0, e68_1, e68_2, rfl, g68_0, g68_1, g68_2⟩ := inv_Type j6
  refine SpecP_intro Tryz.func176 rfl (by kernel_rfl) rfl fun A _ => ?_
  refine gGO ?_
  refine V_cond rfl (fun hc => ?_) (fun hc => ?_)
  · refine gREG ?_
    refine gGO ?_
    refine V_ret ?_
    exact ⟨trivial, ⟨_, rfl, congrArg U.b (deq_false.2 (by intro h; injection h with h; injection h with q0 h; injection q0 with hk; simp [hk] at hc)).symm⟩, trivial⟩
  refine V_skip ?_
  have e0 := (by simpa using hc : f0 = d0)
  clear hc
  refine gGO ?_
  (first | refine VO_q (Q_call rfl h1 vA) rfl ?_ | refine VQ_q (Q_call rfl h1 vA) rfl ?_ | (refine VO_bare rfl rfl rfl rfl ?_; refine VO_q (Q_call rfl h1 vA) rfl ?_) | refine VQ_run rfl rfl rfl rfl (Q_call rfl h1 vA) rfl ?_)
  refine gGO ?_
  refine V_cond rfl (fun hc => ?_) (fun hc => ?_)
  · refine gREG ?_
    refine gGO ?_
    refine V_ret ?_
    exact ⟨trivial, ⟨_, rfl, congrArg U.b (deq_false.2 (by intro h; injection h with h; injection h with q0 h; injection h with q1 h; rw [q1, deq_self] at hc; cases hc)).symm⟩, trivial⟩
  refine V_skip ?_
  have e1 := deq_true.1 (by simpa using hc : deq _ _ = true)
  clear hc
  refine gGO ?_
  (first | refine VO_q (Q_call rfl h2 vA) rfl ?_ | refine VQ_q (Q_call rfl h2 vA) rfl ?_ | (refine VO_bare rfl rfl rfl rfl ?_; refine VO_q (Q_call rfl h2 vA) rfl ?_) | refine VQ_run rfl rfl rfl rfl (Q_call rfl h2 vA) rfl ?_)
  refine gGO ?_
  refine V_cond rfl (fun hc => ?_) (fun hc => ?_)
  · refine gREG ?_
    refine gGO ?_
    refine V_ret ?_
    exact ⟨trivial, ⟨_, rfl, congrArg U.b (deq_false.2 (by intro h; injection h with h; injection h with q0 h; injection h with q1 h; injection h with q2 h; rw [q2, deq_self] at hc; cases hc)).symm⟩, trivial⟩
  refine V_skip ?_
  have e2 := deq_true.1 (by simpa using hc : deq _ _ = true)
  clear hc
  refine gGO ?_
  (first | refine VO_q (Q_call rfl h3 vA) rfl ?_ | refine VQ_q (Q_call rfl h3 vA) rfl ?_ | (refine VO_bare rfl rfl rfl rfl ?_; refine VO_q (Q_call rfl h3 vA) rfl ?_) | refine VQ_run rfl rfl rfl rfl (Q_call rfl h3 vA) rfl ?_)
  refine gGO ?_
  refine V_cond rfl (fun hc => ?_) (fun hc => ?_)
  · refine gREG ?_
    refine gGO ?_
    refine V_ret ?_
    exact ⟨trivial, ⟨_, rfl, congrArg U.b (deq_false.2 (by intro h; injection h with h; injection h with q0 h; injection h with q1 h; injection h with q2 h; injection h with q3 h; rw [q3, deq_self] at hc; cases hc)).symm⟩, trivial⟩
  refine V_skip ?_
  have e3 := deq_true.1 (by simpa using hc : deq _ _ = true)
  clear hc
  refine gGO ?_
  refine V_cond rfl (fun hc => ?_) (fun hc => ?_)
  · refine gREG ?_
    refine gGO ?_
    refine V_ret ?_
    exact ⟨trivial, ⟨_, rfl, congrArg U.b (deq_false.2 (by intro h; injection h with h; injection h with q0 h; injection h with q1 h; injection h with q2 h; injection h with q3 h; injection h with q4 h; injection q4 with hk; simp [hk] at hc)).symm⟩, trivial⟩
  refine V_skip ?_
  have e4 := (by simpa using hc : f4 = d4)
  clear hc
  refine gGO ?_
  refine V_cond rfl (fun hc => ?_) (fun hc => ?_)
  · refine gREG ?_
    refine gGO ?_
    refine V_ret ?_
    exact ⟨trivial, ⟨_, rfl, congrArg U.b (deq_false.2 (by intro h; injection h with h; injection h with q0 h; injection h with q1 h; injection h with q2 h; injection h with q3 h; injection h with q4 h; injection h with q5 h; injection q5 with hk; simp [hk] at hc)).symm⟩, trivial⟩
  refine V_skip ?_
  have e5 := (by simpa using hc : f5 = d5)
  clear hc
  refine gGO ?_
  (first | refine VO_q (Q_call rfl h6 vA) rfl ?_ | refine VQ_q (Q_call rfl h6 vA) rfl ?_ | (refine VO_bare rfl rfl rfl rfl ?_; refine VO_q (Q_call rfl h6 vA) rfl ?_) | refine VQ_run rfl rfl rfl rfl (Q_call rfl h6 vA) rfl ?_)
  refine gGO ?_
  refine V_cond rfl (fun hc => ?_) (fun hc => ?_)
  · refine gREG ?_
    refine gGO ?_
    refine V_ret ?_
    exact ⟨trivial, ⟨_, rfl, congrArg U.b (deq_false.2 (by intro h; injection h with h; injection h with q0 h; injection h with q1 h; injection h with q2 h; injection h with q3 h; injection h with q4 h; injection h with q5 h; injection h with q6 h; rw [q6, deq_self] at hc; cases hc)).symm⟩, trivial⟩
  refine V_skip ?_
  have e6 := deq_true.1 (by simpa using hc : deq _ _ = true)
  clear hc
  refine gGO ?_
  (first | refine VO_q (Q_call rfl h7 vA) rfl ?_ | refine VQ_q (Q_call rfl h7 vA) rfl ?_ | (refine VO_bare rfl rfl rfl rfl ?_; refine VO_q (Q_call rfl h7 vA) rfl ?_) | refine VQ_run rfl rfl rfl rfl (Q_call rfl h7 vA) rfl ?_)
  refine gGO ?_
  refine V_cond rfl (fun hc => ?_) (fun hc => ?_)
  · refine gREG ?_
    refine gGO ?_
    refine V_ret ?_
    exact ⟨trivial, ⟨_, rfl, congrArg U.b (deq_false.2 (by intro h; injection h with h; injection h with q0 h; injection h with q1 h; injection h with q2 h; injection h with q3 h; injection h with q4 h; injection h with q5 h; injection h with q6 h; injection h with q7 h; rw [q7, deq_self] at hc; cases hc)).symm⟩, trivial⟩
  refine V_skip ?_
  have e7 := deq_true.1 (by simpa using hc : deq _ _ = true)
  clear hc
  refine gGO ?_
  refine V_ret ?_
  exact ⟨trivial, ⟨_, rfl, congrArg U.b (deq_true.2 (by rw [e0, e1, e2, e3, e4, e5, e6, e7])).symm⟩, trivial⟩
theorem eqInstanceS_step {us vs : List U} (hb1 : us.length ≤ big) (hb2 : vs.length ≤ big) (hz : ∀ a ∈ us, a.isSt = true ∧ a.sz = 12) (hz2 : ∀ a ∈ vs, a.isSt = true ∧ a.sz = 12) (ih : ∀ a ∈ us, ∀ b ∈ vs, PEq 176 a b) : PEq 124 (.sl 12 us) (.sl 12 vs) := by
  rw [big_eq] at hb1 hb2
  refine SpecP_intro Tryz.func124 rfl (by kernel_rfl) rfl fun A _ => ?_
  refine gGO ?_
  refine V_cond rfl (fun hc => ?_) (fun hc => ?_)
  · refine gREG ?_
    refine gGO ?_
    refine V_ret ?_
    exact ⟨trivial, ⟨_, rfl, congrArg U.b (deq_false.2 (by intro h; injection h with _ h; subst h; simp at hc)).symm⟩, trivial⟩
  refine V_skip ?_
  have hll : us.length = vs.length := by simp at hc; omega
  refine gGO ?_
  refine V_block ?_
  refine V_loop (α := Nat)
    (fun k => ⟨[(0, .d (.sl 12 us)), (1, .d (.sl 12 vs)), (5, .d (.i .i64 k))], [], Tryz.f124.ntmps⟩)
    (fun k => k ≤ us.length ∧ ∀ j, j < k → us[j]? = vs[j]?)
    (fun k => us.length - k) 0 ⟨rfl, ⟨⟨rfl, rfl⟩, ⟨rfl, rfl⟩, ⟨rfl, rfl⟩, trivial⟩, ⟨[], rfl⟩, rfl⟩ ⟨by simp, by simp⟩ ?_
  rintro k ⟨hk, hsame⟩
  refine gGO ?_
  refine V_cond rfl (fun hc2 => ?_) (fun hc2 => ?_)
  · refine V_skip ?_
    simp only [decide_eq_true_eq] at hc2
    have hkl : k < us.length := by omega
    have hkv : k < vs.length := by omega
    have hget : us[k]? = some us[k] := List.getElem?_eq_getElem hkl
    have hgev : vs[k]? = some vs[k] := List.getElem?_eq_getElem hkv
    have hmem : us[k] ∈ us := List.getElem_mem hkl
    have hmev : vs[k] ∈ vs := List.getElem_mem hkv
    obtain ⟨hst, hsz⟩ := hz _ hmem
    obtain ⟨hst2, hsz2⟩ := hz2 _ hmev
    refine V_seq (V_block ?_)
    refine gGO ?_
    (first | refine VO_q (Q_index rfl rfl TE.h TI.h (by omega) hget) rfl ?_ | refine VQ_q (Q_index rfl rfl TE.h TI.h (by omega) hget) rfl ?_ | (refine VO_bare rfl rfl rfl rfl ?_; refine VO_q (Q_index rfl rfl TE.h TI.h (by omega) hget) rfl ?_) | refine VQ_run rfl rfl rfl rfl (Q_index rfl rfl TE.h TI.h (by omega) hget) rfl ?_)
    (first | refine VO_q (Q_load rfl TI.h hst hsz) rfl ?_ | refine VQ_q (Q_load rfl TI.h hst hsz) rfl ?_ | (refine VO_bare rfl rfl rfl rfl ?_; refine VO_q (Q_load rfl TI.h hst hsz) rfl ?_) | refine VQ_run rfl rfl rfl rfl (Q_load rfl TI.h hst hsz) rfl ?_)
    refine gGO ?_
    (first | refine VO_q (Q_index rfl rfl TE.h TI.h (by omega) hgev) rfl ?_ | refine VQ_q (Q_index rfl rfl TE.h TI.h (by omega) hgev) rfl ?_ | (refine VO_bare rfl rfl rfl rfl ?_; refine VO_q (Q_index rfl rfl TE.h TI.h (by omega) hgev) rfl ?_) | refine VQ_run rfl rfl rfl rfl (Q_index rfl rfl TE.h TI.h (by omega) hgev) rfl ?_)
    (first | refine VO_q (Q_load rfl TI.h hst2 hsz2) rfl ?_ | refine VQ_q (Q_load rfl TI.h hst2 hsz2) rfl ?_ | (refine VO_bare rfl rfl rfl rfl ?_; refine VO_q (Q_load rfl TI.h hst2 hsz2) rfl ?_) | refine VQ_run rfl rfl rfl rfl (Q_load rfl TI.h hst2 hsz2) rfl ?_)
    (first | refine VO_q (Q_call rfl (ih _ hmem _ hmev) vA) rfl ?_ | refine VQ_q (Q_call rfl (ih _ hmem _ hmev) vA) rfl ?_ | (refine VO_bare rfl rfl rfl rfl ?_; refine VO_q (Q_call rfl (ih _ hmem _ hmev) vA) rfl ?_) | refine VQ_run rfl rfl rfl rfl (Q_call rfl (ih _ hmem _ hmev) vA) rfl ?_)
    refine gGO ?_
    refine V_cond rfl (fun hc3 => ?_) (fun hc3 => ?_)
    · refine gREG ?_
      refine gGO ?_
      refine V_ret ?_
      exact ⟨trivial, ⟨_, rfl, congrArg U.b (deq_false.2 (by intro h; injection h with _ h; subst h; rw [deq_self] at hc3; cases hc3)).symm⟩, trivial⟩
    refine V_skip ?_
    have heq : us[k] = vs[k] := deq_true.1 (by simpa using hc3)
    refine gGO ?_
    refine ⟨k + 1, ⟨by omega, fun j hj => ?_⟩, by omega, ⟨rfl, ⟨⟨rfl, rfl⟩, ⟨rfl, rfl⟩, ⟨rfl, rfl⟩, trivial⟩, ⟨[], rfl⟩, rfl⟩⟩
    by_cases hjk : j = k
    · subst hjk; rw [hget, hgev, heq]
    · exact hsame j (by omega)
  · refine V_exit ?_
    simp only [decide_eq_false_iff_not] at hc2
    have hkl : k = us.length := by omega
    subst hkl
    have hall : us = vs := by
      apply List.ext_getElem?
      intro j
      by_cases hj : j < us.length
      · exact hsame j hj
      · rw [List.getElem?_eq_none (by omega), List.getElem?_eq_none (by omega)]
    show V _ _ _ _ _
    refine gGO ?_
    refine V_ret ?_
    exact ⟨trivial, ⟨_, rfl, congrArg U.b (deq_true.2 (by rw [hall])).symm⟩, trivial⟩
theorem eqInstance_grp (u : U) : (∀ v, wt (.st 11) u → wt (.st 11) v → PEq 176 u v) := by
  refine U.ind (M := fun u => (∀ v, wt (.st 11) u → wt (.st 11) v → PEq 176 u v)) (fun u ih => ?_) u
  refine ?_
  · intro v h h2
    obtain ⟨f0, f1, f2, f3, f4, f5, f6, f7, rfl, p0, p1, p2, p3, p6, p7⟩ := inv_Instance h
    obtain ⟨d0, d1, d2, d3, d4, d5, d6, d7, rfl, q0, q1, q2, q3, q6, q7⟩ := inv_Instance h2
    exact eqInstance_step p0 q0 (eqStringS_all p1 q1) p2 q2 (eqType_all p2 q2) (eqBoundS_all p3 q3) p6 q6 (eqType_all p6 q6) (eqMethodS_all p7 q7)
theorem eqInstance_all {u v : U} (h : wt (.st 11) u) (h2 : wt (.st 11) v) : PEq 176 u v := (eqInstance_grp u) v h h2
theorem eqInstanceS_all {us vs : List U} (h : us.length ≤ big ∧ ∀ x ∈ us, wt (.st 11) x) (h2 : vs.length ≤ big ∧ ∀ x ∈ vs, wt (.st 11) x) : PEq 124 (.sl 12 us) (.sl 12 vs) := eqInstanceS_step h.1 h2.1 (fun a ha => ⟨wt_isSt (h.2 a ha), by rw [wt_sz a _ (h.2 a ha)]; rfl⟩) (fun a ha => ⟨wt_isSt (h2.2 a ha), by rw [wt_sz a _ (h2.2 a ha)]; rfl⟩) (fun a ha b hb => eqInstance_all (h.2 a ha) (h2.2 b hb))
theorem eqParam_step {f0 : List UInt8} {f1 : U} {d0 : List UInt8} {d1 : U} (h0 : f0.length ≤ big) (k0 : d0.length ≤ big) (g1 : wt (.st 1) f1) (j1 : wt (.st 1) d1) (h1 : PEq 103 f1 d1) : PEq 152 (.st [.s f0, f1]) (.st [.s d0, d1]) := by
  obtain ⟨e69_0, e69_1, e69_2, rfl, g69_0, g69_1, g69_2⟩ := inv_Type g1
  obtain ⟨e70_0, e70_1, e70_2, rfl, g70_0, g70_1, g70_2⟩ := inv_Type j1
  refine SpecP_intro Tryz.func152 rfl (by kernel_rfl) rfl fun A _ => ?_
  refine gGO ?_
  refine V_cond rfl (fun hc => ?_) (fun hc => ?_)
  · refine gREG ?_
    refine gGO ?_
    refine V_ret ?_
    exact ⟨trivial, ⟨_, rfl, congrArg U.b (deq_false.2 (by intro h; injection h with h; injection h with q0 h; injection q0 with hk; simp [hk] at hc)).symm⟩, trivial⟩
  refine V_skip ?_
  have e0 := (by simpa using hc : f0 = d0)
  clear hc
  refine gGO ?_
  (first | refine VO_q (Q_call rfl h1 vA) rfl ?_ | refine VQ_q (Q_call rfl h1 vA) rfl ?_ | (refine VO_bare rfl rfl rfl rfl ?_; refine VO_q (Q_call rfl h1 vA) rfl ?_) | refine VQ_run rfl rfl rfl rfl (Q_call rfl h1 vA) rfl ?_)
  refine gGO ?_
  refine V_cond rfl (fun hc => ?_) (fun hc => ?_)
  · refine gREG ?_
    refine gGO ?_
    refine V_ret ?_
    exact ⟨trivial, ⟨_, rfl, congrArg U.b (deq_false.2 (by intro h; injection h with h; injection h with q0 h; injection h with q1 h; rw [q1, deq_self] at hc; cases hc)).symm⟩, trivial⟩
  refine V_skip ?_
  have e1 := deq_true.1 (by simpa using hc : deq _ _ = true)
  clear hc
  refine gGO ?_
  refine V_ret ?_
  exact ⟨trivial, ⟨_, rfl, congrArg U.b (deq_true.2 (by rw [e0, e1])).symm⟩, trivial⟩
theorem eqParamS_step {us vs : List U} (hb1 : us.length ≤ big) (hb2 : vs.length ≤ big) (hz : ∀ a ∈ us, a.isSt = true ∧ a.sz = 4) (hz2 : ∀ a ∈ vs, a.isSt = true ∧ a.sz = 4) (ih : ∀ a ∈ us, ∀ b ∈ vs, PEq 152 a b) : PEq 102 (.sl 4 us) (.sl 4 vs) := by
  rw [big_eq] at hb1 hb2
  refine SpecP_intro Tryz.func102 rfl (by kernel_rfl) rfl fun A _ => ?_
  refine gGO ?_
  refine V_cond rfl (fun hc => ?_) (fun hc => ?_)
  · refine gREG ?_
    refine gGO ?_
    refine V_ret ?_
    exact ⟨trivial, ⟨_, rfl, congrArg U.b (deq_false.2 (by intro h; injection h with _ h; subst h; simp at hc)).symm⟩, trivial⟩
  refine V_skip ?_
  have hll : us.length = vs.length := by simp at hc; omega
  refine gGO ?_
  refine V_block ?_
  refine V_loop (α := Nat)
    (fun k => ⟨[(0, .d (.sl 4 us)), (1, .d (.sl 4 vs)), (5, .d (.i .i64 k))], [], Tryz.f102.ntmps⟩)
    (fun k => k ≤ us.length ∧ ∀ j, j < k → us[j]? = vs[j]?)
    (fun k => us.length - k) 0 ⟨rfl, ⟨⟨rfl, rfl⟩, ⟨rfl, rfl⟩, ⟨rfl, rfl⟩, trivial⟩, ⟨[], rfl⟩, rfl⟩ ⟨by simp, by simp⟩ ?_
  rintro k ⟨hk, hsame⟩
  refine gGO ?_
  refine V_cond rfl (fun hc2 => ?_) (fun hc2 => ?_)
  · refine V_skip ?_
    simp only [decide_eq_true_eq] at hc2
    have hkl : k < us.length := by omega
    have hkv : k < vs.length := by omega
    have hget : us[k]? = some us[k] := List.getElem?_eq_getElem hkl
    have hgev : vs[k]? = some vs[k] := List.getElem?_eq_getElem hkv
    have hmem : us[k] ∈ us := List.getElem_mem hkl
    have hmev : vs[k] ∈ vs := List.getElem_mem hkv
    obtain ⟨hst, hsz⟩ := hz _ hmem
    obtain ⟨hst2, hsz2⟩ := hz2 _ hmev
    refine V_seq (V_block ?_)
    refine gGO ?_
    (first | refine VO_q (Q_index rfl rfl TE.h TI.h (by omega) hget) rfl ?_ | refine VQ_q (Q_index rfl rfl TE.h TI.h (by omega) hget) rfl ?_ | (refine VO_bare rfl rfl rfl rfl ?_; refine VO_q (Q_index rfl rfl TE.h TI.h (by omega) hget) rfl ?_) | refine VQ_run rfl rfl rfl rfl (Q_index rfl rfl TE.h TI.h (by omega) hget) rfl ?_)
    (first | refine VO_q (Q_load rfl TI.h hst hsz) rfl ?_ | refine VQ_q (Q_load rfl TI.h hst hsz) rfl ?_ | (refine VO_bare rfl rfl rfl rfl ?_; refine VO_q (Q_load rfl TI.h hst hsz) rfl ?_) | refine VQ_run rfl rfl rfl rfl (Q_load rfl TI.h hst hsz) rfl ?_)
    refine gGO ?_
    (first | refine VO_q (Q_index rfl rfl TE.h TI.h (by omega) hgev) rfl ?_ | refine VQ_q (Q_index rfl rfl TE.h TI.h (by omega) hgev) rfl ?_ | (refine VO_bare rfl rfl rfl rfl ?_; refine VO_q (Q_index rfl rfl TE.h TI.h (by omega) hgev) rfl ?_) | refine VQ_run rfl rfl rfl rfl (Q_index rfl rfl TE.h TI.h (by omega) hgev) rfl ?_)
    (first | refine VO_q (Q_load rfl TI.h hst2 hsz2) rfl ?_ | refine VQ_q (Q_load rfl TI.h hst2 hsz2) rfl ?_ | (refine VO_bare rfl rfl rfl rfl ?_; refine VO_q (Q_load rfl TI.h hst2 hsz2) rfl ?_) | refine VQ_run rfl rfl rfl rfl (Q_load rfl TI.h hst2 hsz2) rfl ?_)
    (first | refine VO_q (Q_call rfl (ih _ hmem _ hmev) vA) rfl ?_ | refine VQ_q (Q_call rfl (ih _ hmem _ hmev) vA) rfl ?_ | (refine VO_bare rfl rfl rfl rfl ?_; refine VO_q (Q_call rfl (ih _ hmem _ hmev) vA) rfl ?_) | refine VQ_run rfl rfl rfl rfl (Q_call rfl (ih _ hmem _ hmev) vA) rfl ?_)
    refine gGO ?_
    refine V_cond rfl (fun hc3 => ?_) (fun hc3 => ?_)
    · refine gREG ?_
      refine gGO ?_
      refine V_ret ?_
      exact ⟨trivial, ⟨_, rfl, congrArg U.b (deq_false.2 (by intro h; injection h with _ h; subst h; rw [deq_self] at hc3; cases hc3)).symm⟩, trivial⟩
    refine V_skip ?_
    have heq : us[k] = vs[k] := deq_true.1 (by simpa using hc3)
    refine gGO ?_
    refine ⟨k + 1, ⟨by omega, fun j hj => ?_⟩, by omega, ⟨rfl, ⟨⟨rfl, rfl⟩, ⟨rfl, rfl⟩, ⟨rfl, rfl⟩, trivial⟩, ⟨[], rfl⟩, rfl⟩⟩
    by_cases hjk : j = k
    · subst hjk; rw [hget, hgev, heq]
    · exact hsame j (by omega)
  · refine V_exit ?_
    simp only [decide_eq_false_iff_not] at hc2
    have hkl : k = us.length := by omega
    subst hkl
    have hall : us = vs := by
      apply List.ext_getElem?
      intro j
      by_cases hj : j < us.length
      · exact hsame j hj
      · rw [List.getElem?_eq_none (by omega), List.getElem?_eq_none (by omega)]
    show V _ _ _ _ _
    refine gGO ?_
    refine V_ret ?_
    exact ⟨trivial, ⟨_, rfl, congrArg U.b (deq_true.2 (by rw [hall])).symm⟩, trivial⟩
theorem eqParam_grp (u : U) : (∀ v, wt (.st 12) u → wt (.st 12) v → PEq 152 u v) := by
  refine U.ind (M := fun u => (∀ v, wt (.st 12) u → wt (.st 12) v → PEq 152 u v)) (fun u ih => ?_) u
  refine ?_
  · intro v h h2
    obtain ⟨f0, f1, rfl, p0, p1⟩ := inv_Param h
    obtain ⟨d0, d1, rfl, q0, q1⟩ := inv_Param h2
    exact eqParam_step p0 q0 p1 q1 (eqType_all p1 q1)
theorem eqParam_all {u v : U} (h : wt (.st 12) u) (h2 : wt (.st 12) v) : PEq 152 u v := (eqParam_grp u) v h h2
theorem eqParamS_all {us vs : List U} (h : us.length ≤ big ∧ ∀ x ∈ us, wt (.st 12) x) (h2 : vs.length ≤ big ∧ ∀ x ∈ vs, wt (.st 12) x) : PEq 102 (.sl 4 us) (.sl 4 vs) := eqParamS_step h.1 h2.1 (fun a ha => ⟨wt_isSt (h.2 a ha), by rw [wt_sz a _ (h.2 a ha)]; rfl⟩) (fun a ha => ⟨wt_isSt (h2.2 a ha), by rw [wt_sz a _ (h2.2 a ha)]; rfl⟩) (fun a ha b hb => eqParam_all (h.2 a ha) (h2.2 b hb))
theorem eqFunction_step {f0 : List UInt8} {f1 : List U} {f2 : List U} {f3 : List U} {f4 : U} {f5 : U} {d0 : List UInt8} {d1 : List U} {d2 : List U} {d3 : List U} {d4 : U} {d5 : U} (h0 : f0.length ≤ big) (k0 : d0.length ≤ big) (h1 : PEq 100 (.sl 1 f1) (.sl 1 d1)) (h2 : PEq 101 (.sl 4 f2) (.sl 4 d2)) (h3 : PEq 102 (.sl 4 f3) (.sl 4 d3)) (g4 : wt (.st 1) f4) (j4 : wt (.st 1) d4) (h4 : PEq 103 f4 d4) (g5 : wt (.st 4) f5) (j5 : wt (.st 4) d5) (h5 : PEq 196 f5 d5) : PEq 177 (.st [.s f0, .sl 1 f1, .sl 4 f2, .sl 4 f3, f4, f5]) (.st [.s d0, .sl 1 d1, .sl 4 d2, .sl 4 d3, d4, d5]) := by
  obtain ⟨e71_0, e71_1, e71_2, rfl, g71_0, g71_1, g71_2⟩ := inv_Type g4
  obtain ⟨e72_0, e72_1, e72_2, rfl, g72_0, g72_1, g72_2⟩ := inv_Type j4
  obtain ⟨e73_0, e73_1, e73_2, e73_3, e73_4, e73_5, e73_6, rfl, g73_0, g73_1, g73_2, g73_3, g73_4, g73_5, g73_6⟩ := inv_Expr g5
  obtain ⟨e74_0, e74_1, e74_2, rfl, g74_0, g74_1, g74_2⟩ := inv_Type g73_4
  obtain ⟨e75_0, e75_1, e75_2, e75_3, e75_4, e75_5, e75_6, rfl, g75_0, g75_1, g75_2, g75_3, g75_4, g75_5, g75_6⟩ := inv_Expr j5
  obtain ⟨e76_0, e76_1, e76_2, rfl, g76_0, g76_1, g76_2⟩ := inv_Type g75_4
  refine SpecP_intro Tryz.func177 rfl (by kernel_rfl) rfl fun A _ => ?_
  refine gGO ?_
  refine V_cond rfl (fun hc => ?_) (fun hc => ?_)
  · refine gREG ?_
    refine gGO ?_
    refine V_ret ?_
    exact ⟨trivial, ⟨_, rfl, congrArg U.b (deq_false.2 (by intro h; injection h with h; injection h with q0 h; injection q0 with hk; simp [hk] at hc)).symm⟩, trivial⟩
  refine V_skip ?_
  have e0 := (by simpa using hc : f0 = d0)
  clear hc
  refine gGO ?_
  (first | refine VO_q (Q_call rfl h1 vA) rfl ?_ | refine VQ_q (Q_call rfl h1 vA) rfl ?_ | (refine VO_bare rfl rfl rfl rfl ?_; refine VO_q (Q_call rfl h1 vA) rfl ?_) | refine VQ_run rfl rfl rfl rfl (Q_call rfl h1 vA) rfl ?_)
  refine gGO ?_
  refine V_cond rfl (fun hc => ?_) (fun hc => ?_)
  · refine gREG ?_
    refine gGO ?_
    refine V_ret ?_
    exact ⟨trivial, ⟨_, rfl, congrArg U.b (deq_false.2 (by intro h; injection h with h; injection h with q0 h; injection h with q1 h; rw [q1, deq_self] at hc; cases hc)).symm⟩, trivial⟩
  refine V_skip ?_
  have e1 := deq_true.1 (by simpa using hc : deq _ _ = true)
  clear hc
  refine gGO ?_
  (first | refine VO_q (Q_call rfl h2 vA) rfl ?_ | refine VQ_q (Q_call rfl h2 vA) rfl ?_ | (refine VO_bare rfl rfl rfl rfl ?_; refine VO_q (Q_call rfl h2 vA) rfl ?_) | refine VQ_run rfl rfl rfl rfl (Q_call rfl h2 vA) rfl ?_)
  refine gGO ?_
  refine V_cond rfl (fun hc => ?_) (fun hc => ?_)
  · refine gREG ?_
    refine gGO ?_
    refine V_ret ?_
    exact ⟨trivial, ⟨_, rfl, congrArg U.b (deq_false.2 (by intro h; injection h with h; injection h with q0 h; injection h with q1 h; injection h with q2 h; rw [q2, deq_self] at hc; cases hc)).symm⟩, trivial⟩
  refine V_skip ?_
  have e2 := deq_true.1 (by simpa using hc : deq _ _ = true)
  clear hc
  refine gGO ?_
  (first | refine VO_q (Q_call rfl h3 vA) rfl ?_ | refine VQ_q (Q_call rfl h3 vA) rfl ?_ | (refine VO_bare rfl rfl rfl rfl ?_; refine VO_q (Q_call rfl h3 vA) rfl ?_) | refine VQ_run rfl rfl rfl rfl (Q_call rfl h3 vA) rfl ?_)
  refine gGO ?_
  refine V_cond rfl (fun hc => ?_) (fun hc => ?_)
  · refine gREG ?_
    refine gGO ?_
    refine V_ret ?_
    exact ⟨trivial, ⟨_, rfl, congrArg U.b (deq_false.2 (by intro h; injection h with h; injection h with q0 h; injection h with q1 h; injection h with q2 h; injection h with q3 h; rw [q3, deq_self] at hc; cases hc)).symm⟩, trivial⟩
  refine V_skip ?_
  have e3 := deq_true.1 (by simpa using hc : deq _ _ = true)
  clear hc
  refine gGO ?_
  (first | refine VO_q (Q_call rfl h4 vA) rfl ?_ | refine VQ_q (Q_call rfl h4 vA) rfl ?_ | (refine VO_bare rfl rfl rfl rfl ?_; refine VO_q (Q_call rfl h4 vA) rfl ?_) | refine VQ_run rfl rfl rfl rfl (Q_call rfl h4 vA) rfl ?_)
  refine gGO ?_
  refine V_cond rfl (fun hc => ?_) (fun hc => ?_)
  · refine gREG ?_
    refine gGO ?_
    refine V_ret ?_
    exact ⟨trivial, ⟨_, rfl, congrArg U.b (deq_false.2 (by intro h; injection h with h; injection h with q0 h; injection h with q1 h; injection h with q2 h; injection h with q3 h; injection h with q4 h; rw [q4, deq_self] at hc; cases hc)).symm⟩, trivial⟩
  refine V_skip ?_
  have e4 := deq_true.1 (by simpa using hc : deq _ _ = true)
  clear hc
  refine gGO ?_
  (first | refine VO_q (Q_call rfl h5 vA) rfl ?_ | refine VQ_q (Q_call rfl h5 vA) rfl ?_ | (refine VO_bare rfl rfl rfl rfl ?_; refine VO_q (Q_call rfl h5 vA) rfl ?_) | refine VQ_run rfl rfl rfl rfl (Q_call rfl h5 vA) rfl ?_)
  refine gGO ?_
  refine V_cond rfl (fun hc => ?_) (fun hc => ?_)
  · refine gREG ?_
    refine gGO ?_
    refine V_ret ?_
    exact ⟨trivial, ⟨_, rfl, congrArg U.b (deq_false.2 (by intro h; injection h with h; injection h with q0 h; injection h with q1 h; injection h with q2 h; injection h with q3 h; injection h with q4 h; injection h with q5 h; rw [q5, deq_self] at hc; cases hc)).symm⟩, trivial⟩
  refine V_skip ?_
  have e5 := deq_true.1 (by simpa using hc : deq _ _ = true)
  clear hc
  refine gGO ?_
  refine V_ret ?_
  exact ⟨trivial, ⟨_, rfl, congrArg U.b (deq_true.2 (by rw [e0, e1, e2, e3, e4, e5])).symm⟩, trivial⟩
theorem eqFunctionS_step {us vs : List U} (hb1 : us.length ≤ big) (hb2 : vs.length ≤ big) (hz : ∀ a ∈ us, a.isSt = true ∧ a.sz = 16) (hz2 : ∀ a ∈ vs, a.isSt = true ∧ a.sz = 16) (ih : ∀ a ∈ us, ∀ b ∈ vs, PEq 177 a b) : PEq 125 (.sl 16 us) (.sl 16 vs) := by
  rw [big_eq] at hb1 hb2
  refine SpecP_intro Tryz.func125 rfl (by kernel_rfl) rfl fun A _ => ?_
  refine gGO ?_
  refine V_cond rfl (fun hc => ?_) (fun hc => ?_)
  · refine gREG ?_
    refine gGO ?_
    refine V_ret ?_
    exact ⟨trivial, ⟨_, rfl, congrArg U.b (deq_false.2 (by intro h; injection h with _ h; subst h; simp at hc)).symm⟩, trivial⟩
  refine V_skip ?_
  have hll : us.length = vs.length := by simp at hc; omega
  refine gGO ?_
  refine V_block ?_
  refine V_loop (α := Nat)
    (fun k => ⟨[(0, .d (.sl 16 us)), (1, .d (.sl 16 vs)), (5, .d (.i .i64 k))], [], Tryz.f125.ntmps⟩)
    (fun k => k ≤ us.length ∧ ∀ j, j < k → us[j]? = vs[j]?)
    (fun k => us.length - k) 0 ⟨rfl, ⟨⟨rfl, rfl⟩, ⟨rfl, rfl⟩, ⟨rfl, rfl⟩, trivial⟩, ⟨[], rfl⟩, rfl⟩ ⟨by simp, by simp⟩ ?_
  rintro k ⟨hk, hsame⟩
  refine gGO ?_
  refine V_cond rfl (fun hc2 => ?_) (fun hc2 => ?_)
  · refine V_skip ?_
    simp only [decide_eq_true_eq] at hc2
    have hkl : k < us.length := by omega
    have hkv : k < vs.length := by omega
    have hget : us[k]? = some us[k] := List.getElem?_eq_getElem hkl
    have hgev : vs[k]? = some vs[k] := List.getElem?_eq_getElem hkv
    have hmem : us[k] ∈ us := List.getElem_mem hkl
    have hmev : vs[k] ∈ vs := List.getElem_mem hkv
    obtain ⟨hst, hsz⟩ := hz _ hmem
    obtain ⟨hst2, hsz2⟩ := hz2 _ hmev
    refine V_seq (V_block ?_)
    refine gGO ?_
    (first | refine VO_q (Q_index rfl rfl TE.h TI.h (by omega) hget) rfl ?_ | refine VQ_q (Q_index rfl rfl TE.h TI.h (by omega) hget) rfl ?_ | (refine VO_bare rfl rfl rfl rfl ?_; refine VO_q (Q_index rfl rfl TE.h TI.h (by omega) hget) rfl ?_) | refine VQ_run rfl rfl rfl rfl (Q_index rfl rfl TE.h TI.h (by omega) hget) rfl ?_)
    (first | refine VO_q (Q_load rfl TI.h hst hsz) rfl ?_ | refine VQ_q (Q_load rfl TI.h hst hsz) rfl ?_ | (refine VO_bare rfl rfl rfl rfl ?_; refine VO_q (Q_load rfl TI.h hst hsz) rfl ?_) | refine VQ_run rfl rfl rfl rfl (Q_load rfl TI.h hst hsz) rfl ?_)
    refine gGO ?_
    (first | refine VO_q (Q_index rfl rfl TE.h TI.h (by omega) hgev) rfl ?_ | refine VQ_q (Q_index rfl rfl TE.h TI.h (by omega) hgev) rfl ?_ | (refine VO_bare rfl rfl rfl rfl ?_; refine VO_q (Q_index rfl rfl TE.h TI.h (by omega) hgev) rfl ?_) | refine VQ_run rfl rfl rfl rfl (Q_index rfl rfl TE.h TI.h (by omega) hgev) rfl ?_)
    (first | refine VO_q (Q_load rfl TI.h hst2 hsz2) rfl ?_ | refine VQ_q (Q_load rfl TI.h hst2 hsz2) rfl ?_ | (refine VO_bare rfl rfl rfl rfl ?_; refine VO_q (Q_load rfl TI.h hst2 hsz2) rfl ?_) | refine VQ_run rfl rfl rfl rfl (Q_load rfl TI.h hst2 hsz2) rfl ?_)
    (first | refine VO_q (Q_call rfl (ih _ hmem _ hmev) vA) rfl ?_ | refine VQ_q (Q_call rfl (ih _ hmem _ hmev) vA) rfl ?_ | (refine VO_bare rfl rfl rfl rfl ?_; refine VO_q (Q_call rfl (ih _ hmem _ hmev) vA) rfl ?_) | refine VQ_run rfl rfl rfl rfl (Q_call rfl (ih _ hmem _ hmev) vA) rfl ?_)
    refine gGO ?_
    refine V_cond rfl (fun hc3 => ?_) (fun hc3 => ?_)
    · refine gREG ?_
      refine gGO ?_
      refine V_ret ?_
      exact ⟨trivial, ⟨_, rfl, congrArg U.b (deq_false.2 (by intro h; injection h with _ h; subst h; rw [deq_self] at hc3; cases hc3)).symm⟩, trivial⟩
    refine V_skip ?_
    have heq : us[k] = vs[k] := deq_true.1 (by simpa using hc3)
    refine gGO ?_
    refine ⟨k + 1, ⟨by omega, fun j hj => ?_⟩, by omega, ⟨rfl, ⟨⟨rfl, rfl⟩, ⟨rfl, rfl⟩, ⟨rfl, rfl⟩, trivial⟩, ⟨[], rfl⟩, rfl⟩⟩
    by_cases hjk : j = k
    · subst hjk; rw [hget, hgev, heq]
    · exact hsame j (by omega)
  · refine V_exit ?_
    simp only [decide_eq_false_iff_not] at hc2
    have hkl : k = us.length := by omega
    subst hkl
    have hall : us = vs := by
      apply List.ext_getElem?
      intro j
      by_cases hj : j < us.length
      · exact hsame j hj
      · rw [List.getElem?_eq_none (by omega), List.getElem?_eq_none (by omega)]
    show V _ _ _ _ _
    refine gGO ?_
    refine V_ret ?_
    exact ⟨trivial, ⟨_, rfl, congrArg U.b (deq_true.2 (by rw [hall])).symm⟩, trivial⟩
theorem eqFunction_grp (u : U) : (∀ v, wt (.st 13) u → wt (.st 13) v → PEq 177 u v) := by
  refine U.ind (M := fun u => (∀ v, wt (.st 13) u → wt (.st 13) v → PEq 177 u v)) (fun u ih => ?_) u
  refine ?_
  · intro v h h2
    obtain ⟨f0, f1, f2, f3, f4, f5, rfl, p0, p1, p2, p3, p4, p5⟩ := inv_Function h
    obtain ⟨d0, d1, d2, d3, d4, d5, rfl, q0, q1, q2, q3, q4, q5⟩ := inv_Function h2
    exact eqFunction_step p0 q0 (eqStringS_all p1 q1) (eqBoundS_all p2 q2) (eqParamS_all p3 q3) p4 q4 (eqType_all p4 q4) p5 q5 (eqExpr_all p5 q5)
theorem eqFunction_all {u v : U} (h : wt (.st 13) u) (h2 : wt (.st 13) v) : PEq 177 u v := (eqFunction_grp u) v h h2
theorem eqFunctionS_all {us vs : List U} (h : us.length ≤ big ∧ ∀ x ∈ us, wt (.st 13) x) (h2 : vs.length ≤ big ∧ ∀ x ∈ vs, wt (.st 13) x) : PEq 125 (.sl 16 us) (.sl 16 vs) := eqFunctionS_step h.1 h2.1 (fun a ha => ⟨wt_isSt (h.2 a ha), by rw [wt_sz a _ (h.2 a ha)]; rfl⟩) (fun a ha => ⟨wt_isSt (h2.2 a ha), by rw [wt_sz a _ (h2.2 a ha)]; rfl⟩) (fun a ha b hb => eqFunction_all (h.2 a ha) (h2.2 b hb))
theorem eqPackage_step {f0 : List UInt8} {f1 : List U} {f2 : List U} {f3 : List U} {f4 : List U} {f5 : List U} {d0 : List UInt8} {d1 : List U} {d2 : List U} {d3 : List U} {d4 : List U} {d5 : List U} (h0 : f0.length ≤ big) (k0 : d0.length ≤ big) (h1 : PEq 100 (.sl 1 f1) (.sl 1 d1)) (h2 : PEq 122 (.sl 5 f2) (.sl 5 d2)) (h3 : PEq 123 (.sl 3 f3) (.sl 3 d3)) (h4 : PEq 124 (.sl 12 f4) (.sl 12 d4)) (h5 : PEq 125 (.sl 16 f5) (.sl 16 d5)) : PEq 71 (.st [.s f0, .sl 1 f1, .sl 5 f2, .sl 3 f3, .sl 12 f4, .sl 16 f5]) (.st [.s d0, .sl 1 d1, .sl 5 d2, .sl 3 d3, .sl 12 d4, .sl 16 d5]) := by
  refine SpecP_intro Tryz.func71 rfl (by kernel_rfl) rfl fun A _ => ?_
  refine gGO ?_
  refine V_cond rfl (fun hc => ?_) (fun hc => ?_)
  · refine gREG ?_
    refine gGO ?_
    refine V_ret ?_
    exact ⟨trivial, ⟨_, rfl, congrArg U.b (deq_false.2 (by intro h; injection h with h; injection h with q0 h; injection q0 with hk; simp [hk] at hc)).symm⟩, trivial⟩
  refine V_skip ?_
  have e0 := (by simpa using hc : f0 = d0)
  clear hc
  refine gGO ?_
  (first | refine VO_q (Q_call rfl h1 vA) rfl ?_ | refine VQ_q (Q_call rfl h1 vA) rfl ?_ | (refine VO_bare rfl rfl rfl rfl ?_; refine VO_q (Q_call rfl h1 vA) rfl ?_) | refine VQ_run rfl rfl rfl rfl (Q_call rfl h1 vA) rfl ?_)
  refine gGO ?_
  refine V_cond rfl (fun hc => ?_) (fun hc => ?_)
  · refine gREG ?_
    refine gGO ?_
    refine V_ret ?_
    exact ⟨trivial, ⟨_, rfl, congrArg U.b (deq_false.2 (by intro h; injection h with h; injection h with q0 h; injection h with q1 h; rw [q1, deq_self] at hc; cases hc)).symm⟩, trivial⟩
  refine V_skip ?_
  have e1 := deq_true.1 (by simpa using hc : deq _ _ = true)
  clear hc
  refine gGO ?_
  (first | refine VO_q (Q_call rfl h2 vA) rfl ?_ | refine VQ_q (Q_call rfl h2 vA) rfl ?_ | (refine VO_bare rfl rfl rfl rfl ?_; refine VO_q (Q_call rfl h2 vA) rfl ?_) | refine VQ_run rfl rfl rfl rfl (Q_call rfl h2 vA) rfl ?_)
  refine gGO ?_
  refine V_cond rfl (fun hc => ?_) (fun hc => ?_)
  · refine gREG ?_
    refine gGO ?_
    refine V_ret ?_
    exact ⟨trivial, ⟨_, rfl, congrArg U.b (deq_false.2 (by intro h; injection h with h; injection h with q0 h; injection h with q1 h; injection h with q2 h; rw [q2, deq_self] at hc; cases hc)).symm⟩, trivial⟩
  refine V_skip ?_
  have e2 := deq_true.1 (by simpa using hc : deq _ _ = true)
  clear hc
  refine gGO ?_
  (first | refine VO_q (Q_call rfl h3 vA) rfl ?_ | refine VQ_q (Q_call rfl h3 vA) rfl ?_ | (refine VO_bare rfl rfl rfl rfl ?_; refine VO_q (Q_call rfl h3 vA) rfl ?_) | refine VQ_run rfl rfl rfl rfl (Q_call rfl h3 vA) rfl ?_)
  refine gGO ?_
  refine V_cond rfl (fun hc => ?_) (fun hc => ?_)
  · refine gREG ?_
    refine gGO ?_
    refine V_ret ?_
    exact ⟨trivial, ⟨_, rfl, congrArg U.b (deq_false.2 (by intro h; injection h with h; injection h with q0 h; injection h with q1 h; injection h with q2 h; injection h with q3 h; rw [q3, deq_self] at hc; cases hc)).symm⟩, trivial⟩
  refine V_skip ?_
  have e3 := deq_true.1 (by simpa using hc : deq _ _ = true)
  clear hc
  refine gGO ?_
  (first | refine VO_q (Q_call rfl h4 vA) rfl ?_ | refine VQ_q (Q_call rfl h4 vA) rfl ?_ | (refine VO_bare rfl rfl rfl rfl ?_; refine VO_q (Q_call rfl h4 vA) rfl ?_) | refine VQ_run rfl rfl rfl rfl (Q_call rfl h4 vA) rfl ?_)
  refine gGO ?_
  refine V_cond rfl (fun hc => ?_) (fun hc => ?_)
  · refine gREG ?_
    refine gGO ?_
    refine V_ret ?_
    exact ⟨trivial, ⟨_, rfl, congrArg U.b (deq_false.2 (by intro h; injection h with h; injection h with q0 h; injection h with q1 h; injection h with q2 h; injection h with q3 h; injection h with q4 h; rw [q4, deq_self] at hc; cases hc)).symm⟩, trivial⟩
  refine V_skip ?_
  have e4 := deq_true.1 (by simpa using hc : deq _ _ = true)
  clear hc
  refine gGO ?_
  (first | refine VO_q (Q_call rfl h5 vA) rfl ?_ | refine VQ_q (Q_call rfl h5 vA) rfl ?_ | (refine VO_bare rfl rfl rfl rfl ?_; refine VO_q (Q_call rfl h5 vA) rfl ?_) | refine VQ_run rfl rfl rfl rfl (Q_call rfl h5 vA) rfl ?_)
  refine gGO ?_
  refine V_cond rfl (fun hc => ?_) (fun hc => ?_)
  · refine gREG ?_
    refine gGO ?_
    refine V_ret ?_
    exact ⟨trivial, ⟨_, rfl, congrArg U.b (deq_false.2 (by intro h; injection h with h; injection h with q0 h; injection h with q1 h; injection h with q2 h; injection h with q3 h; injection h with q4 h; injection h with q5 h; rw [q5, deq_self] at hc; cases hc)).symm⟩, trivial⟩
  refine V_skip ?_
  have e5 := deq_true.1 (by simpa using hc : deq _ _ = true)
  clear hc
  refine gGO ?_
  refine V_ret ?_
  exact ⟨trivial, ⟨_, rfl, congrArg U.b (deq_true.2 (by rw [e0, e1, e2, e3, e4, e5])).symm⟩, trivial⟩
theorem eqPackageS_step {us vs : List U} (hb1 : us.length ≤ big) (hb2 : vs.length ≤ big) (hz : ∀ a ∈ us, a.isSt = true ∧ a.sz = 6) (hz2 : ∀ a ∈ vs, a.isSt = true ∧ a.sz = 6) (ih : ∀ a ∈ us, ∀ b ∈ vs, PEq 71 a b) : PEq 31 (.sl 6 us) (.sl 6 vs) := by
  rw [big_eq] at hb1 hb2
  refine SpecP_intro Tryz.func31 rfl (by kernel_rfl) rfl fun A _ => ?_
  refine gGO ?_
  refine V_cond rfl (fun hc => ?_) (fun hc => ?_)
  · refine gREG ?_
    refine gGO ?_
    refine V_ret ?_
    exact ⟨trivial, ⟨_, rfl, congrArg U.b (deq_false.2 (by intro h; injection h with _ h; subst h; simp at hc)).symm⟩, trivial⟩
  refine V_skip ?_
  have hll : us.length = vs.length := by simp at hc; omega
  refine gGO ?_
  refine V_block ?_
  refine V_loop (α := Nat)
    (fun k => ⟨[(0, .d (.sl 6 us)), (1, .d (.sl 6 vs)), (5, .d (.i .i64 k))], [], Tryz.f31.ntmps⟩)
    (fun k => k ≤ us.length ∧ ∀ j, j < k → us[j]? = vs[j]?)
    (fun k => us.length - k) 0 ⟨rfl, ⟨⟨rfl, rfl⟩, ⟨rfl, rfl⟩, ⟨rfl, rfl⟩, trivial⟩, ⟨[], rfl⟩, rfl⟩ ⟨by simp, by simp⟩ ?_
  rintro k ⟨hk, hsame⟩
  refine gGO ?_
  refine V_cond rfl (fun hc2 => ?_) (fun hc2 => ?_)
  · refine V_skip ?_
    simp only [decide_eq_true_eq] at hc2
    have hkl : k < us.length := by omega
    have hkv : k < vs.length := by omega
    have hget : us[k]? = some us[k] := List.getElem?_eq_getElem hkl
    have hgev : vs[k]? = some vs[k] := List.getElem?_eq_getElem hkv
    have hmem : us[k] ∈ us := List.getElem_mem hkl
    have hmev : vs[k] ∈ vs := List.getElem_mem hkv
    obtain ⟨hst, hsz⟩ := hz _ hmem
    obtain ⟨hst2, hsz2⟩ := hz2 _ hmev
    refine V_seq (V_block ?_)
    refine gGO ?_
    (first | refine VO_q (Q_index rfl rfl TE.h TI.h (by omega) hget) rfl ?_ | refine VQ_q (Q_index rfl rfl TE.h TI.h (by omega) hget) rfl ?_ | (refine VO_bare rfl rfl rfl rfl ?_; refine VO_q (Q_index rfl rfl TE.h TI.h (by omega) hget) rfl ?_) | refine VQ_run rfl rfl rfl rfl (Q_index rfl rfl TE.h TI.h (by omega) hget) rfl ?_)
    (first | refine VO_q (Q_load rfl TI.h hst hsz) rfl ?_ | refine VQ_q (Q_load rfl TI.h hst hsz) rfl ?_ | (refine VO_bare rfl rfl rfl rfl ?_; refine VO_q (Q_load rfl TI.h hst hsz) rfl ?_) | refine VQ_run rfl rfl rfl rfl (Q_load rfl TI.h hst hsz) rfl ?_)
    refine gGO ?_
    (first | refine VO_q (Q_index rfl rfl TE.h TI.h (by omega) hgev) rfl ?_ | refine VQ_q (Q_index rfl rfl TE.h TI.h (by omega) hgev) rfl ?_ | (refine VO_bare rfl rfl rfl rfl ?_; refine VO_q (Q_index rfl rfl TE.h TI.h (by omega) hgev) rfl ?_) | refine VQ_run rfl rfl rfl rfl (Q_index rfl rfl TE.h TI.h (by omega) hgev) rfl ?_)
    (first | refine VO_q (Q_load rfl TI.h hst2 hsz2) rfl ?_ | refine VQ_q (Q_load rfl TI.h hst2 hsz2) rfl ?_ | (refine VO_bare rfl rfl rfl rfl ?_; refine VO_q (Q_load rfl TI.h hst2 hsz2) rfl ?_) | refine VQ_run rfl rfl rfl rfl (Q_load rfl TI.h hst2 hsz2) rfl ?_)
    (first | refine VO_q (Q_call rfl (ih _ hmem _ hmev) vA) rfl ?_ | refine VQ_q (Q_call rfl (ih _ hmem _ hmev) vA) rfl ?_ | (refine VO_bare rfl rfl rfl rfl ?_; refine VO_q (Q_call rfl (ih _ hmem _ hmev) vA) rfl ?_) | refine VQ_run rfl rfl rfl rfl (Q_call rfl (ih _ hmem _ hmev) vA) rfl ?_)
    refine gGO ?_
    refine V_cond rfl (fun hc3 => ?_) (fun hc3 => ?_)
    · refine gREG ?_
      refine gGO ?_
      refine V_ret ?_
      exact ⟨trivial, ⟨_, rfl, congrArg U.b (deq_false.2 (by intro h; injection h with _ h; subst h; rw [deq_self] at hc3; cases hc3)).symm⟩, trivial⟩
    refine V_skip ?_
    have heq : us[k] = vs[k] := deq_true.1 (by simpa using hc3)
    refine gGO ?_
    refine ⟨k + 1, ⟨by omega, fun j hj => ?_⟩, by omega, ⟨rfl, ⟨⟨rfl, rfl⟩, ⟨rfl, rfl⟩, ⟨rfl, rfl⟩, trivial⟩, ⟨[], rfl⟩, rfl⟩⟩
    by_cases hjk : j = k
    · subst hjk; rw [hget, hgev, heq]
    · exact hsame j (by omega)
  · refine V_exit ?_
    simp only [decide_eq_false_iff_not] at hc2
    have hkl : k = us.length := by omega
    subst hkl
    have hall : us = vs := by
      apply List.ext_getElem?
      intro j
      by_cases hj : j < us.length
      · exact hsame j hj
      · rw [List.getElem?_eq_none (by omega), List.getElem?_eq_none (by omega)]
    show V _ _ _ _ _
    refine gGO ?_
    refine V_ret ?_
    exact ⟨trivial, ⟨_, rfl, congrArg U.b (deq_true.2 (by rw [hall])).symm⟩, trivial⟩
theorem eqPackage_grp (u : U) : (∀ v, wt (.st 14) u → wt (.st 14) v → PEq 71 u v) := by
  refine U.ind (M := fun u => (∀ v, wt (.st 14) u → wt (.st 14) v → PEq 71 u v)) (fun u ih => ?_) u
  refine ?_
  · intro v h h2
    obtain ⟨f0, f1, f2, f3, f4, f5, rfl, p0, p1, p2, p3, p4, p5⟩ := inv_Package h
    obtain ⟨d0, d1, d2, d3, d4, d5, rfl, q0, q1, q2, q3, q4, q5⟩ := inv_Package h2
    exact eqPackage_step p0 q0 (eqStringS_all p1 q1) (eqTraitS_all p2 q2) (eqDataTypeS_all p3 q3) (eqInstanceS_all p4 q4) (eqFunctionS_all p5 q5)
theorem eqPackage_all {u v : U} (h : wt (.st 14) u) (h2 : wt (.st 14) v) : PEq 71 u v := (eqPackage_grp u) v h h2
theorem eqPackageS_all {us vs : List U} (h : us.length ≤ big ∧ ∀ x ∈ us, wt (.st 14) x) (h2 : vs.length ≤ big ∧ ∀ x ∈ vs, wt (.st 14) x) : PEq 31 (.sl 6 us) (.sl 6 vs) := eqPackageS_step h.1 h2.1 (fun a ha => ⟨wt_isSt (h.2 a ha), by rw [wt_sz a _ (h.2 a ha)]; rfl⟩) (fun a ha => ⟨wt_isSt (h2.2 a ha), by rw [wt_sz a _ (h2.2 a ha)]; rfl⟩) (fun a ha b hb => eqPackage_all (h.2 a ha) (h2.2 b hb))
theorem eqProgram_step {f0 : List U} {d0 : List U} (h0 : PEq 31 (.sl 6 f0) (.sl 6 d0)) : PEq 9 (.st [.sl 6 f0]) (.st [.sl 6 d0]) := by
  refine SpecP_intro Tryz.func9 rfl (by kernel_rfl) rfl fun A _ => ?_
  refine gGO ?_
  (first | refine VO_q (Q_call rfl h0 vA) rfl ?_ | refine VQ_q (Q_call rfl h0 vA) rfl ?_ | (refine VO_bare rfl rfl rfl rfl ?_; refine VO_q (Q_call rfl h0 vA) rfl ?_) | refine VQ_run rfl rfl rfl rfl (Q_call rfl h0 vA) rfl ?_)
  refine gGO ?_
  refine V_cond rfl (fun hc => ?_) (fun hc => ?_)
  · refine gREG ?_
    refine gGO ?_
    refine V_ret ?_
    exact ⟨trivial, ⟨_, rfl, congrArg U.b (deq_false.2 (by intro h; injection h with h; injection h with q0 h; rw [q0, deq_self] at hc; cases hc)).symm⟩, trivial⟩
  refine V_skip ?_
  have e0 := deq_true.1 (by simpa using hc : deq _ _ = true)
  clear hc
  refine gGO ?_
  refine V_ret ?_
  exact ⟨trivial, ⟨_, rfl, congrArg U.b (deq_true.2 (by rw [e0])).symm⟩, trivial⟩
theorem eqProgram_grp (u : U) : (∀ v, wt (.st 15) u → wt (.st 15) v → PEq 9 u v) := by
  refine U.ind (M := fun u => (∀ v, wt (.st 15) u → wt (.st 15) v → PEq 9 u v)) (fun u ih => ?_) u
  refine ?_
  · intro v h h2
    obtain ⟨f0, rfl, p0⟩ := inv_Program h
    obtain ⟨d0, rfl, q0⟩ := inv_Program h2
    exact eqProgram_step (eqPackageS_all p0 q0)
theorem eqProgram_all {u v : U} (h : wt (.st 15) u) (h2 : wt (.st 15) v) : PEq 9 u v := (eqProgram_grp u) v h h2
theorem eqInstanceRef_step {f0 : Int} {f1 : Int} {d0 : Int} {d1 : Int}  : PEq 55 (.st [.i .i64 f0, .i .i64 f1]) (.st [.i .i64 d0, .i .i64 d1]) := by
  refine SpecP_intro Tryz.func55 rfl (by kernel_rfl) rfl fun A _ => ?_
  refine gGO ?_
  refine V_cond rfl (fun hc => ?_) (fun hc => ?_)
  · refine gREG ?_
    refine gGO ?_
    refine V_ret ?_
    exact ⟨trivial, ⟨_, rfl, congrArg U.b (deq_false.2 (by intro h; injection h with h; injection h with q0 h; injection q0 with _ hk; simp [hk] at hc)).symm⟩, trivial⟩
  refine V_skip ?_
  have e0 := (by simpa using hc : f0 = d0)
  clear hc
  refine gGO ?_
  refine V_cond rfl (fun hc => ?_) (fun hc => ?_)
  · refine gREG ?_
    refine gGO ?_
    refine V_ret ?_
    exact ⟨trivial, ⟨_, rfl, congrArg U.b (deq_false.2 (by intro h; injection h with h; injection h with q0 h; injection h with q1 h; injection q1 with _ hk; simp [hk] at hc)).symm⟩, trivial⟩
  refine V_skip ?_
  have e1 := (by simpa using hc : f1 = d1)
  clear hc
  refine gGO ?_
  refine V_ret ?_
  exact ⟨trivial, ⟨_, rfl, congrArg U.b (deq_true.2 (by rw [e0, e1])).symm⟩, trivial⟩
theorem eqInstanceRef_grp (u : U) : (∀ v, wt (.st 16) u → wt (.st 16) v → PEq 55 u v) := by
  refine U.ind (M := fun u => (∀ v, wt (.st 16) u → wt (.st 16) v → PEq 55 u v)) (fun u ih => ?_) u
  refine ?_
  · intro v h h2
    obtain ⟨f0, f1, rfl, p0, p1⟩ := inv_InstanceRef h
    obtain ⟨d0, d1, rfl, q0, q1⟩ := inv_InstanceRef h2
    exact eqInstanceRef_step 
theorem eqInstanceRef_all {u v : U} (h : wt (.st 16) u) (h2 : wt (.st 16) v) : PEq 55 u v := (eqInstanceRef_grp u) v h h2
theorem eqEvidence_step {f0 : Int} {f1 : Int} {f2 : U} {f3 : List U} {d0 : Int} {d1 : Int} {d2 : U} {d3 : List U} (g2 : wt (.st 16) f2) (j2 : wt (.st 16) d2) (h2 : PEq 55 f2 d2) (h3 : PEq 154 (.sl 5 f3) (.sl 5 d3)) : PEq 182 (.st [.i .i64 f0, .i .i64 f1, f2, .sl 5 f3]) (.st [.i .i64 d0, .i .i64 d1, d2, .sl 5 d3]) := by
  obtain ⟨e77_0, e77_1, rfl, g77_0, g77_1⟩ := inv_InstanceRef g2
  obtain ⟨e78_0, e78_1, rfl, g78_0, g78_1⟩ := inv_InstanceRef j2
  refine SpecP_intro Tryz.func182 rfl (by kernel_rfl) rfl fun A _ => ?_
  refine gGO ?_
  refine V_cond rfl (fun hc => ?_) (fun hc => ?_)
  · refine gREG ?_
    refine gGO ?_
    refine V_ret ?_
    exact ⟨trivial, ⟨_, rfl, congrArg U.b (deq_false.2 (by intro h; injection h with h; injection h with q0 h; injection q0 with _ hk; simp [hk] at hc)).symm⟩, trivial⟩
  refine V_skip ?_
  have e0 := (by simpa using hc : f0 = d0)
  clear hc
  refine gGO ?_
  refine V_cond rfl (fun hc => ?_) (fun hc => ?_)
  · refine gREG ?_
    refine gGO ?_
    refine V_ret ?_
    exact ⟨trivial, ⟨_, rfl, congrArg U.b (deq_false.2 (by intro h; injection h with h; injection h with q0 h; injection h with q1 h; injection q1 with _ hk; simp [hk] at hc)).symm⟩, trivial⟩
  refine V_skip ?_
  have e1 := (by simpa using hc : f1 = d1)
  clear hc
  refine gGO ?_
  (first | refine VO_q (Q_call rfl h2 vA) rfl ?_ | refine VQ_q (Q_call rfl h2 vA) rfl ?_ | (refine VO_bare rfl rfl rfl rfl ?_; refine VO_q (Q_call rfl h2 vA) rfl ?_) | refine VQ_run rfl rfl rfl rfl (Q_call rfl h2 vA) rfl ?_)
  refine gGO ?_
  refine V_cond rfl (fun hc => ?_) (fun hc => ?_)
  · refine gREG ?_
    refine gGO ?_
    refine V_ret ?_
    exact ⟨trivial, ⟨_, rfl, congrArg U.b (deq_false.2 (by intro h; injection h with h; injection h with q0 h; injection h with q1 h; injection h with q2 h; rw [q2, deq_self] at hc; cases hc)).symm⟩, trivial⟩
  refine V_skip ?_
  have e2 := deq_true.1 (by simpa using hc : deq _ _ = true)
  clear hc
  refine gGO ?_
  (first | refine VO_q (Q_call rfl h3 vA) rfl ?_ | refine VQ_q (Q_call rfl h3 vA) rfl ?_ | (refine VO_bare rfl rfl rfl rfl ?_; refine VO_q (Q_call rfl h3 vA) rfl ?_) | refine VQ_run rfl rfl rfl rfl (Q_call rfl h3 vA) rfl ?_)
  refine gGO ?_
  refine V_cond rfl (fun hc => ?_) (fun hc => ?_)
  · refine gREG ?_
    refine gGO ?_
    refine V_ret ?_
    exact ⟨trivial, ⟨_, rfl, congrArg U.b (deq_false.2 (by intro h; injection h with h; injection h with q0 h; injection h with q1 h; injection h with q2 h; injection h with q3 h; rw [q3, deq_self] at hc; cases hc)).symm⟩, trivial⟩
  refine V_skip ?_
  have e3 := deq_true.1 (by simpa using hc : deq _ _ = true)
  clear hc
  refine gGO ?_
  refine V_ret ?_
  exact ⟨trivial, ⟨_, rfl, congrArg U.b (deq_true.2 (by rw [e0, e1, e2, e3])).symm⟩, trivial⟩
theorem eqEvidenceS_step {us vs : List U} (hb1 : us.length ≤ big) (hb2 : vs.length ≤ big) (hz : ∀ a ∈ us, a.isSt = true ∧ a.sz = 5) (hz2 : ∀ a ∈ vs, a.isSt = true ∧ a.sz = 5) (ih : ∀ a ∈ us, ∀ b ∈ vs, PEq 182 a b) : PEq 154 (.sl 5 us) (.sl 5 vs) := by
  rw [big_eq] at hb1 hb2
  refine SpecP_intro Tryz.func154 rfl (by kernel_rfl) rfl fun A _ => ?_
  refine gGO ?_
  refine V_cond rfl (fun hc => ?_) (fun hc => ?_)
  · refine gREG ?_
    refine gGO ?_
    refine V_ret ?_
    exact ⟨trivial, ⟨_, rfl, congrArg U.b (deq_false.2 (by intro h; injection h with _ h; subst h; simp at hc)).symm⟩, trivial⟩
  refine V_skip ?_
  have hll : us.length = vs.length := by simp at hc; omega
  refine gGO ?_
  refine V_block ?_
  refine V_loop (α := Nat)
    (fun k => ⟨[(0, .d (.sl 5 us)), (1, .d (.sl 5 vs)), (5, .d (.i .i64 k))], [], Tryz.f154.ntmps⟩)
    (fun k => k ≤ us.length ∧ ∀ j, j < k → us[j]? = vs[j]?)
    (fun k => us.length - k) 0 ⟨rfl, ⟨⟨rfl, rfl⟩, ⟨rfl, rfl⟩, ⟨rfl, rfl⟩, trivial⟩, ⟨[], rfl⟩, rfl⟩ ⟨by simp, by simp⟩ ?_
  rintro k ⟨hk, hsame⟩
  refine gGO ?_
  refine V_cond rfl (fun hc2 => ?_) (fun hc2 => ?_)
  · refine V_skip ?_
    simp only [decide_eq_true_eq] at hc2
    have hkl : k < us.length := by omega
    have hkv : k < vs.length := by omega
    have hget : us[k]? = some us[k] := List.getElem?_eq_getElem hkl
    have hgev : vs[k]? = some vs[k] := List.getElem?_eq_getElem hkv
    have hmem : us[k] ∈ us := List.getElem_mem hkl
    have hmev : vs[k] ∈ vs := List.getElem_mem hkv
    obtain ⟨hst, hsz⟩ := hz _ hmem
    obtain ⟨hst2, hsz2⟩ := hz2 _ hmev
    refine V_seq (V_block ?_)
    refine gGO ?_
    (first | refine VO_q (Q_index rfl rfl TE.h TI.h (by omega) hget) rfl ?_ | refine VQ_q (Q_index rfl rfl TE.h TI.h (by omega) hget) rfl ?_ | (refine VO_bare rfl rfl rfl rfl ?_; refine VO_q (Q_index rfl rfl TE.h TI.h (by omega) hget) rfl ?_) | refine VQ_run rfl rfl rfl rfl (Q_index rfl rfl TE.h TI.h (by omega) hget) rfl ?_)
    (first | refine VO_q (Q_load rfl TI.h hst hsz) rfl ?_ | refine VQ_q (Q_load rfl TI.h hst hsz) rfl ?_ | (refine VO_bare rfl rfl rfl rfl ?_; refine VO_q (Q_load rfl TI.h hst hsz) rfl ?_) | refine VQ_run rfl rfl rfl rfl (Q_load rfl TI.h hst hsz) rfl ?_)
    refine gGO ?_
    (first | refine VO_q (Q_index rfl rfl TE.h TI.h (by omega) hgev) rfl ?_ | refine VQ_q (Q_index rfl rfl TE.h TI.h (by omega) hgev) rfl ?_ | (refine VO_bare rfl rfl rfl rfl ?_; refine VO_q (Q_index rfl rfl TE.h TI.h (by omega) hgev) rfl ?_) | refine VQ_run rfl rfl rfl rfl (Q_index rfl rfl TE.h TI.h (by omega) hgev) rfl ?_)
    (first | refine VO_q (Q_load rfl TI.h hst2 hsz2) rfl ?_ | refine VQ_q (Q_load rfl TI.h hst2 hsz2) rfl ?_ | (refine VO_bare rfl rfl rfl rfl ?_; refine VO_q (Q_load rfl TI.h hst2 hsz2) rfl ?_) | refine VQ_run rfl rfl rfl rfl (Q_load rfl TI.h hst2 hsz2) rfl ?_)
    (first | refine VO_q (Q_call rfl (ih _ hmem _ hmev) vA) rfl ?_ | refine VQ_q (Q_call rfl (ih _ hmem _ hmev) vA) rfl ?_ | (refine VO_bare rfl rfl rfl rfl ?_; refine VO_q (Q_call rfl (ih _ hmem _ hmev) vA) rfl ?_) | refine VQ_run rfl rfl rfl rfl (Q_call rfl (ih _ hmem _ hmev) vA) rfl ?_)
    refine gGO ?_
    refine V_cond rfl (fun hc3 => ?_) (fun hc3 => ?_)
    · refine gREG ?_
      refine gGO ?_
      refine V_ret ?_
      exact ⟨trivial, ⟨_, rfl, congrArg U.b (deq_false.2 (by intro h; injection h with _ h; subst h; rw [deq_self] at hc3; cases hc3)).symm⟩, trivial⟩
    refine V_skip ?_
    have heq : us[k] = vs[k] := deq_true.1 (by simpa using hc3)
    refine gGO ?_
    refine ⟨k + 1, ⟨by omega, fun j hj => ?_⟩, by omega, ⟨rfl, ⟨⟨rfl, rfl⟩, ⟨rfl, rfl⟩, ⟨rfl, rfl⟩, trivial⟩, ⟨[], rfl⟩, rfl⟩⟩
    by_cases hjk : j = k
    · subst hjk; rw [hget, hgev, heq]
    · exact hsame j (by omega)
  · refine V_exit ?_
    simp only [decide_eq_false_iff_not] at hc2
    have hkl : k = us.length := by omega
    subst hkl
    have hall : us = vs := by
      apply List.ext_getElem?
      intro j
      by_cases hj : j < us.length
      · exact hsame j hj
      · rw [List.getElem?_eq_none (by omega), List.getElem?_eq_none (by omega)]
    show V _ _ _ _ _
    refine gGO ?_
    refine V_ret ?_
    exact ⟨trivial, ⟨_, rfl, congrArg U.b (deq_true.2 (by rw [hall])).symm⟩, trivial⟩
theorem eqEvidence_grp (u : U) : (∀ v, wt (.st 18) u → wt (.st 18) v → PEq 182 u v) := by
  refine U.ind (M := fun u => (∀ v, wt (.st 18) u → wt (.st 18) v → PEq 182 u v)) (fun u ih => ?_) u
  refine ?_
  · intro v h h2
    obtain ⟨f0, f1, f2, f3, rfl, p0, p1, p2, p3⟩ := inv_Evidence h
    obtain ⟨d0, d1, d2, d3, rfl, q0, q1, q2, q3⟩ := inv_Evidence h2
    exact eqEvidence_step p2 q2 (eqInstanceRef_all p2 q2) (eqEvidenceS_step p3.1 q3.1 (fun a ha => ⟨wt_isSt (p3.2 a ha), by rw [wt_sz a _ (p3.2 a ha)]; rfl⟩) (fun a ha => ⟨wt_isSt (q3.2 a ha), by rw [wt_sz a _ (q3.2 a ha)]; rfl⟩) (fun a ha b hb => (ih a (by have := nn_of_mem ha; simp only [U.nn, U.nns]; omega)) b (p3.2 a ha) (q3.2 b hb)))
theorem eqEvidence_all {u v : U} (h : wt (.st 18) u) (h2 : wt (.st 18) v) : PEq 182 u v := (eqEvidence_grp u) v h h2
theorem eqEvidenceS_all {us vs : List U} (h : us.length ≤ big ∧ ∀ x ∈ us, wt (.st 18) x) (h2 : vs.length ≤ big ∧ ∀ x ∈ vs, wt (.st 18) x) : PEq 154 (.sl 5 us) (.sl 5 vs) := eqEvidenceS_step h.1 h2.1 (fun a ha => ⟨wt_isSt (h.2 a ha), by rw [wt_sz a _ (h.2 a ha)]; rfl⟩) (fun a ha => ⟨wt_isSt (h2.2 a ha), by rw [wt_sz a _ (h2.2 a ha)]; rfl⟩) (fun a ha b hb => eqEvidence_all (h.2 a ha) (h2.2 b hb))
theorem eqCoreArm_step {f0 : List UInt8} {f1 : List U} {f2 : U} {d0 : List UInt8} {d1 : List U} {d2 : U} (h0 : f0.length ≤ big) (k0 : d0.length ≤ big) (h1 : PEq 100 (.sl 1 f1) (.sl 1 d1)) (g2 : wt (.st 21) f2) (j2 : wt (.st 21) d2) (h2 : PEq 104 f2 d2) : PEq 183 (.st [.s f0, .sl 1 f1, f2]) (.st [.s d0, .sl 1 d1, d2]) := by
  obtain ⟨e79_0, e79_1, e79_2, e79_3, e79_4, e79_5, e79_6, e79_7, e79_8, rfl, g79_0, g79_1, g79_2, g79_3, g79_4, g79_5, g79_6, g79_7, g79_8⟩ := inv_Core g2
  obtain ⟨e80_0, e80_1, e80_2, rfl, g80_0, g80_1, g80_2⟩ := inv_Type g79_4
  obtain ⟨e81_0, e81_1, e81_2, e81_3, e81_4, e81_5, e81_6, e81_7, e81_8, rfl, g81_0, g81_1, g81_2, g81_3, g81_4, g81_5, g81_6, g81_7, g81_8⟩ := inv_Core j2
  obtain ⟨e82_0, e82_1, e82_2, rfl, g82_0, g82_1, g82_2⟩ := inv_Type g81_4
  refine SpecP_intro Tryz.func183 rfl (by kernel_rfl) rfl fun A _ => ?_
  refine gGO ?_
  refine V_cond rfl (fun hc => ?_) (fun hc => ?_)
  · refine gREG ?_
    refine gGO ?_
    refine V_ret ?_
    exact ⟨trivial, ⟨_, rfl, congrArg U.b (deq_false.2 (by intro h; injection h with h; injection h with q0 h; injection q0 with hk; simp [hk] at hc)).symm⟩, trivial⟩
  refine V_skip ?_
  have e0 := (by simpa using hc : f0 = d0)
  clear hc
  refine gGO ?_
  (first | refine VO_q (Q_call rfl h1 vA) rfl ?_ | refine VQ_q (Q_call rfl h1 vA) rfl ?_ | (refine VO_bare rfl rfl rfl rfl ?_; refine VO_q (Q_call rfl h1 vA) rfl ?_) | refine VQ_run rfl rfl rfl rfl (Q_call rfl h1 vA) rfl ?_)
  refine gGO ?_
  refine V_cond rfl (fun hc => ?_) (fun hc => ?_)
  · refine gREG ?_
    refine gGO ?_
    refine V_ret ?_
    exact ⟨trivial, ⟨_, rfl, congrArg U.b (deq_false.2 (by intro h; injection h with h; injection h with q0 h; injection h with q1 h; rw [q1, deq_self] at hc; cases hc)).symm⟩, trivial⟩
  refine V_skip ?_
  have e1 := deq_true.1 (by simpa using hc : deq _ _ = true)
  clear hc
  refine gGO ?_
  (first | refine VO_q (Q_call rfl h2 vA) rfl ?_ | refine VQ_q (Q_call rfl h2 vA) rfl ?_ | (refine VO_bare rfl rfl rfl rfl ?_; refine VO_q (Q_call rfl h2 vA) rfl ?_) | refine VQ_run rfl rfl rfl rfl (Q_call rfl h2 vA) rfl ?_)
  refine gGO ?_
  refine V_cond rfl (fun hc => ?_) (fun hc => ?_)
  · refine gREG ?_
    refine gGO ?_
    refine V_ret ?_
    exact ⟨trivial, ⟨_, rfl, congrArg U.b (deq_false.2 (by intro h; injection h with h; injection h with q0 h; injection h with q1 h; injection h with q2 h; rw [q2, deq_self] at hc; cases hc)).symm⟩, trivial⟩
  refine V_skip ?_
  have e2 := deq_true.1 (by simpa using hc : deq _ _ = true)
  clear hc
  refine gGO ?_
  refine V_ret ?_
  exact ⟨trivial, ⟨_, rfl, congrArg U.b (deq_true.2 (by rw [e0, e1, e2])).symm⟩, trivial⟩
theorem eqCoreArmS_step {us vs : List U} (hb1 : us.length ≤ big) (hb2 : vs.length ≤ big) (hz : ∀ a ∈ us, a.isSt = true ∧ a.sz = 13) (hz2 : ∀ a ∈ vs, a.isSt = true ∧ a.sz = 13) (ih : ∀ a ∈ us, ∀ b ∈ vs, PEq 183 a b) : PEq 156 (.sl 13 us) (.sl 13 vs) := by
  rw [big_eq] at hb1 hb2
  refine SpecP_intro Tryz.func156 rfl (by kernel_rfl) rfl fun A _ => ?_
  refine gGO ?_
  refine V_cond rfl (fun hc => ?_) (fun hc => ?_)
  · refine gREG ?_
    refine gGO ?_
    refine V_ret ?_
    exact ⟨trivial, ⟨_, rfl, congrArg U.b (deq_false.2 (by intro h; injection h with _ h; subst h; simp at hc)).symm⟩, trivial⟩
  refine V_skip ?_
  have hll : us.length = vs.length := by simp at hc; omega
  refine gGO ?_
  refine V_block ?_
  refine V_loop (α := Nat)
    (fun k => ⟨[(0, .d (.sl 13 us)), (1, .d (.sl 13 vs)), (5, .d (.i .i64 k))], [], Tryz.f156.ntmps⟩)
    (fun k => k ≤ us.length ∧ ∀ j, j < k → us[j]? = vs[j]?)
    (fun k => us.length - k) 0 ⟨rfl, ⟨⟨rfl, rfl⟩, ⟨rfl, rfl⟩, ⟨rfl, rfl⟩, trivial⟩, ⟨[], rfl⟩, rfl⟩ ⟨by simp, by simp⟩ ?_
  rintro k ⟨hk, hsame⟩
  refine gGO ?_
  refine V_cond rfl (fun hc2 => ?_) (fun hc2 => ?_)
  · refine V_skip ?_
    simp only [decide_eq_true_eq] at hc2
    have hkl : k < us.length := by omega
    have hkv : k < vs.length := by omega
    have hget : us[k]? = some us[k] := List.getElem?_eq_getElem hkl
    have hgev : vs[k]? = some vs[k] := List.getElem?_eq_getElem hkv
    have hmem : us[k] ∈ us := List.getElem_mem hkl
    have hmev : vs[k] ∈ vs := List.getElem_mem hkv
    obtain ⟨hst, hsz⟩ := hz _ hmem
    obtain ⟨hst2, hsz2⟩ := hz2 _ hmev
    refine V_seq (V_block ?_)
    refine gGO ?_
    (first | refine VO_q (Q_index rfl rfl TE.h TI.h (by omega) hget) rfl ?_ | refine VQ_q (Q_index rfl rfl TE.h TI.h (by omega) hget) rfl ?_ | (refine VO_bare rfl rfl rfl rfl ?_; refine VO_q (Q_index rfl rfl TE.h TI.h (by omega) hget) rfl ?_) | refine VQ_run rfl rfl rfl rfl (Q_index rfl rfl TE.h TI.h (by omega) hget) rfl ?_)
    (first | refine VO_q (Q_load rfl TI.h hst hsz) rfl ?_ | refine VQ_q (Q_load rfl TI.h hst hsz) rfl ?_ | (refine VO_bare rfl rfl rfl rfl ?_; refine VO_q (Q_load rfl TI.h hst hsz) rfl ?_) | refine VQ_run rfl rfl rfl rfl (Q_load rfl TI.h hst hsz) rfl ?_)
    refine gGO ?_
    (first | refine VO_q (Q_index rfl rfl TE.h TI.h (by omega) hgev) rfl ?_ | refine VQ_q (Q_index rfl rfl TE.h TI.h (by omega) hgev) rfl ?_ | (refine VO_bare rfl rfl rfl rfl ?_; refine VO_q (Q_index rfl rfl TE.h TI.h (by omega) hgev) rfl ?_) | refine VQ_run rfl rfl rfl rfl (Q_index rfl rfl TE.h TI.h (by omega) hgev) rfl ?_)
    (first | refine VO_q (Q_load rfl TI.h hst2 hsz2) rfl ?_ | refine VQ_q (Q_load rfl TI.h hst2 hsz2) rfl ?_ | (refine VO_bare rfl rfl rfl rfl ?_; refine VO_q (Q_load rfl TI.h hst2 hsz2) rfl ?_) | refine VQ_run rfl rfl rfl rfl (Q_load rfl TI.h hst2 hsz2) rfl ?_)
    (first | refine VO_q (Q_call rfl (ih _ hmem _ hmev) vA) rfl ?_ | refine VQ_q (Q_call rfl (ih _ hmem _ hmev) vA) rfl ?_ | (refine VO_bare rfl rfl rfl rfl ?_; refine VO_q (Q_call rfl (ih _ hmem _ hmev) vA) rfl ?_) | refine VQ_run rfl rfl rfl rfl (Q_call rfl (ih _ hmem _ hmev) vA) rfl ?_)
    refine gGO ?_
    refine V_cond rfl (fun hc3 => ?_) (fun hc3 => ?_)
    · refine gREG ?_
      refine gGO ?_
      refine V_ret ?_
      exact ⟨trivial, ⟨_, rfl, congrArg U.b (deq_false.2 (by intro h; injection h with _ h; subst h; rw [deq_self] at hc3; cases hc3)).symm⟩, trivial⟩
    refine V_skip ?_
    have heq : us[k] = vs[k] := deq_true.1 (by simpa using hc3)
    refine gGO ?_
    refine ⟨k + 1, ⟨by omega, fun j hj => ?_⟩, by omega, ⟨rfl, ⟨⟨rfl, rfl⟩, ⟨rfl, rfl⟩, ⟨rfl, rfl⟩, trivial⟩, ⟨[], rfl⟩, rfl⟩⟩
    by_cases hjk : j = k
    · subst hjk; rw [hget, hgev, heq]
    · exact hsame j (by omega)
  · refine V_exit ?_
    simp only [decide_eq_false_iff_not] at hc2
    have hkl : k = us.length := by omega
    subst hkl
    have hall : us = vs := by
      apply List.ext_getElem?
      intro j
      by_cases hj : j < us.length
      · exact hsame j hj
      · rw [List.getElem?_eq_none (by omega), List.getElem?_eq_none (by omega)]
    show V _ _ _ _ _
    refine gGO ?_
    refine V_ret ?_
    exact ⟨trivial, ⟨_, rfl, congrArg U.b (deq_true.2 (by rw [hall])).symm⟩, trivial⟩
theorem eqCore_step {f0 : Int} {f1 : List UInt8} {f2 : List UInt8} {f3 : Int} {f4 : U} {f5 : List U} {f6 : List U} {f7 : List U} {f8 : List U} {d0 : Int} {d1 : List UInt8} {d2 : List UInt8} {d3 : Int} {d4 : U} {d5 : List U} {d6 : List U} {d7 : List U} {d8 : List U} (h1 : f1.length ≤ big) (k1 : d1.length ≤ big) (h2 : f2.length ≤ big) (k2 : d2.length ≤ big) (g4 : wt (.st 1) f4) (j4 : wt (.st 1) d4) (h4 : PEq 103 f4 d4) (h5 : PEq 153 (.sl 3 f5) (.sl 3 d5)) (h6 : PEq 154 (.sl 5 f6) (.sl 5 d6)) (h7 : PEq 155 (.sl 11 f7) (.sl 11 d7)) (h8 : PEq 156 (.sl 13 f8) (.sl 13 d8)) : PEq 104 (.st [.i .i64 f0, .s f1, .s f2, .i .i64 f3, f4, .sl 3 f5, .sl 5 f6, .sl 11 f7, .sl 13 f8]) (.st [.i .i64 d0, .s d1, .s d2, .i .i64 d3, d4, .sl 3 d5, .sl 5 d6, .sl 11 d7, .sl 13 d8]) := by
  obtain ⟨e83_0, e83_1, e83_2, rfl, g83_0, g83_1, g83_2⟩ := inv_Type g4
  obtain ⟨e84_0, e84_1, e84_2, rfl, g84_0, g84_1, g84_2⟩ := inv_Type j4
  refine SpecP_intro Tryz.func104 rfl (by kernel_rfl) rfl fun A _ => ?_
  refine gGO ?_
  refine V_cond rfl (fun hc => ?_) (fun hc => ?_)
  · refine gREG ?_
    refine gGO ?_
    refine V_ret ?_
    exact ⟨trivial, ⟨_, rfl, congrArg U.b (deq_false.2 (by intro h; injection h with h; injection h with q0 h; injection q0 with _ hk; simp [hk] at hc)).symm⟩, trivial⟩
  refine V_skip ?_
  have e0 := (by simpa using hc : f0 = d0)
  clear hc
  refine gGO ?_
  refine V_cond rfl (fun hc => ?_) (fun hc => ?_)
  · refine gREG ?_
    refine gGO ?_
    refine V_ret ?_
    exact ⟨trivial, ⟨_, rfl, congrArg U.b (deq_false.2 (by intro h; injection h with h; injection h with q0 h; injection h with q1 h; injection q1 with hk; simp [hk] at hc)).symm⟩, trivial⟩
  refine V_skip ?_
  have e1 := (by simpa using hc : f1 = d1)
  clear hc
  refine gGO ?_
  refine V_cond rfl (fun hc => ?_) (fun hc => ?_)
  · refine gREG ?_
    refine gGO ?_
    refine V_ret ?_
    exact ⟨trivial, ⟨_, rfl, congrArg U.b (deq_false.2 (by intro h; injection h with h; injection h with q0 h; injection h with q1 h; injection h with q2 h; injection q2 with hk; simp [hk] at hc)).symm⟩, trivial⟩
  refine V_skip ?_
  have e2 := (by simpa using hc : f2 = d2)
  clear hc
  refine gGO ?_
  refine V_cond rfl (fun hc => ?_) (fun hc => ?_)
  · refine gREG ?_
    refine gGO ?_
    refine V_ret ?_
    exact ⟨trivial, ⟨_, rfl, congrArg U.b (deq_false.2 (by intro h; injection h with h; injection h with q0 h; injection h with q1 h; injection h with q2 h; injection h with q3 h; injection q3 with _ hk; simp [hk] at hc)).symm⟩, trivial⟩
  refine V_skip ?_
  have e3 := (by simpa using hc : f3 = d3)
  clear hc
  refine gGO ?_
  (first | refine VO_q (Q_call rfl h4 vA) rfl ?_ | refine VQ_q (Q_call rfl h4 vA) rfl ?_ | (refine VO_bare rfl rfl rfl rfl ?_; refine VO_q (Q_call rfl h4 vA) rfl ?_) | refine VQ_run rfl rfl rfl rfl (Q_call rfl h4 vA) rfl ?_)
  refine gGO ?_
  refine V_cond rfl (fun hc => ?_) (fun hc => ?_)
  · refine gREG ?_
    refine gGO ?_
    refine V_ret ?_
    exact ⟨trivial, ⟨_, rfl, congrArg U.b (deq_false.2 (by intro h; injection h with h; injection h with q0 h; injection h with q1 h; injection h with q2 h; injection h with q3 h; injection h with q4 h; rw [q4, deq_self] at hc; cases hc)).symm⟩, trivial⟩
  refine V_skip ?_
  have e4 := deq_true.1 (by simpa using hc : deq _ _ = true)
  clear hc
  refine gGO ?_
  (first | refine VO_q (Q_call rfl h5 vA) rfl ?_ | refine VQ_q (Q_call rfl h5 vA) rfl ?_ | (refine VO_bare rfl rfl rfl rfl ?_; refine VO_q (Q_call rfl h5 vA) rfl ?_) | refine VQ_run rfl rfl rfl rfl (Q_call rfl h5 vA) rfl ?_)
  refine gGO ?_
  refine V_cond rfl (fun hc => ?_) (fun hc => ?_)
  · refine gREG ?_
    refine gGO ?_
    refine V_ret ?_
    exact ⟨trivial, ⟨_, rfl, congrArg U.b (deq_false.2 (by intro h; injection h with h; injection h with q0 h; injection h with q1 h; injection h with q2 h; injection h with q3 h; injection h with q4 h; injection h with q5 h; rw [q5, deq_self] at hc; cases hc)).symm⟩, trivial⟩
  refine V_skip ?_
  have e5 := deq_true.1 (by simpa using hc : deq _ _ = true)
  clear hc
  refine gGO ?_
  (first | refine VO_q (Q_call rfl h6 vA) rfl ?_ | refine VQ_q (Q_call rfl h6 vA) rfl ?_ | (refine VO_bare rfl rfl rfl rfl ?_; refine VO_q (Q_call rfl h6 vA) rfl ?_) | refine VQ_run rfl rfl rfl rfl (Q_call rfl h6 vA) rfl ?_)
  refine gGO ?_
  refine V_cond rfl (fun hc => ?_) (fun hc => ?_)
  · refine gREG ?_
    refine gGO ?_
    refine V_ret ?_
    exact ⟨trivial, ⟨_, rfl, congrArg U.b (deq_false.2 (by intro h; injection h with h; injection h with q0 h; injection h with q1 h; injection h with q2 h; injection h with q3 h; injection h with q4 h; injection h with q5 h; injection h with q6 h; rw [q6, deq_self] at hc; cases hc)).symm⟩, trivial⟩
  refine V_skip ?_
  have e6 := deq_true.1 (by simpa using hc : deq _ _ = true)
  clear hc
  refine gGO ?_
  (first | refine VO_q (Q_call rfl h7 vA) rfl ?_ | refine VQ_q (Q_call rfl h7 vA) rfl ?_ | (refine VO_bare rfl rfl rfl rfl ?_; refine VO_q (Q_call rfl h7 vA) rfl ?_) | refine VQ_run rfl rfl rfl rfl (Q_call rfl h7 vA) rfl ?_)
  refine gGO ?_
  refine V_cond rfl (fun hc => ?_) (fun hc => ?_)
  · refine gREG ?_
    refine gGO ?_
    refine V_ret ?_
    exact ⟨trivial, ⟨_, rfl, congrArg U.b (deq_false.2 (by intro h; injection h with h; injection h with q0 h; injection h with q1 h; injection h with q2 h; injection h with q3 h; injection h with q4 h; injection h with q5 h; injection h with q6 h; injection h with q7 h; rw [q7, deq_self] at hc; cases hc)).symm⟩, trivial⟩
  refine V_skip ?_
  have e7 := deq_true.1 (by simpa using hc : deq _ _ = true)
  clear hc
  refine gGO ?_
  (first | refine VO_q (Q_call rfl h8 vA) rfl ?_ | refine VQ_q (Q_call rfl h8 vA) rfl ?_ | (refine VO_bare rfl rfl rfl rfl ?_; refine VO_q (Q_call rfl h8 vA) rfl ?_) | refine VQ_run rfl rfl rfl rfl (Q_call rfl h8 vA) rfl ?_)
  refine gGO ?_
  refine V_cond rfl (fun hc => ?_) (fun hc => ?_)
  · refine gREG ?_
    refine gGO ?_
    refine V_ret ?_
    exact ⟨trivial, ⟨_, rfl, congrArg U.b (deq_false.2 (by intro h; injection h with h; injection h with q0 h; injection h with q1 h; injection h with q2 h; injection h with q3 h; injection h with q4 h; injection h with q5 h; injection h with q6 h; injection h with q7 h; injection h with q8 h; rw [q8, deq_self] at hc; cases hc)).symm⟩, trivial⟩
  refine V_skip ?_
  have e8 := deq_true.1 (by simpa using hc : deq _ _ = true)
  clear hc
  refine gGO ?_
  refine V_ret ?_
  exact ⟨trivial, ⟨_, rfl, congrArg U.b (deq_true.2 (by rw [e0, e1, e2, e3, e4, e5, e6, e7, e8])).symm⟩, trivial⟩
theorem eqCoreS_step {us vs : List U} (hb1 : us.length ≤ big) (hb2 : vs.length ≤ big) (hz : ∀ a ∈ us, a.isSt = true ∧ a.sz = 11) (hz2 : ∀ a ∈ vs, a.isSt = true ∧ a.sz = 11) (ih : ∀ a ∈ us, ∀ b ∈ vs, PEq 104 a b) : PEq 155 (.sl 11 us) (.sl 11 vs) := by
  rw [big_eq] at hb1 hb2
  refine SpecP_intro Tryz.func155 rfl (by kernel_rfl) rfl fun A _ => ?_
  refine gGO ?_
  refine V_cond rfl (fun hc => ?_) (fun hc => ?_)
  · refine gREG ?_
    refine gGO ?_
    refine V_ret ?_
    exact ⟨trivial, ⟨_, rfl, congrArg U.b (deq_false.2 (by intro h; injection h with _ h; subst h; simp at hc)).symm⟩, trivial⟩
  refine V_skip ?_
  have hll : us.length = vs.length := by simp at hc; omega
  refine gGO ?_
  refine V_block ?_
  refine V_loop (α := Nat)
    (fun k => ⟨[(0, .d (.sl 11 us)), (1, .d (.sl 11 vs)), (5, .d (.i .i64 k))], [], Tryz.f155.ntmps⟩)
    (fun k => k ≤ us.length ∧ ∀ j, j < k → us[j]? = vs[j]?)
    (fun k => us.length - k) 0 ⟨rfl, ⟨⟨rfl, rfl⟩, ⟨rfl, rfl⟩, ⟨rfl, rfl⟩, trivial⟩, ⟨[], rfl⟩, rfl⟩ ⟨by simp, by simp⟩ ?_
  rintro k ⟨hk, hsame⟩
  refine gGO ?_
  refine V_cond rfl (fun hc2 => ?_) (fun hc2 => ?_)
  · refine V_skip ?_
    simp only [decide_eq_true_eq] at hc2
    have hkl : k < us.length := by omega
    have hkv : k < vs.length := by omega
    have hget : us[k]? = some us[k] := List.getElem?_eq_getElem hkl
    have hgev : vs[k]? = some vs[k] := List.getElem?_eq_getElem hkv
    have hmem : us[k] ∈ us := List.getElem_mem hkl
    have hmev : vs[k] ∈ vs := List.getElem_mem hkv
    obtain ⟨hst, hsz⟩ := hz _ hmem
    obtain ⟨hst2, hsz2⟩ := hz2 _ hmev
    refine V_seq (V_block ?_)
    refine gGO ?_
    (first | refine VO_q (Q_index rfl rfl TE.h TI.h (by omega) hget) rfl ?_ | refine VQ_q (Q_index rfl rfl TE.h TI.h (by omega) hget) rfl ?_ | (refine VO_bare rfl rfl rfl rfl ?_; refine VO_q (Q_index rfl rfl TE.h TI.h (by omega) hget) rfl ?_) | refine VQ_run rfl rfl rfl rfl (Q_index rfl rfl TE.h TI.h (by omega) hget) rfl ?_)
    (first | refine VO_q (Q_load rfl TI.h hst hsz) rfl ?_ | refine VQ_q (Q_load rfl TI.h hst hsz) rfl ?_ | (refine VO_bare rfl rfl rfl rfl ?_; refine VO_q (Q_load rfl TI.h hst hsz) rfl ?_) | refine VQ_run rfl rfl rfl rfl (Q_load rfl TI.h hst hsz) rfl ?_)
    refine gGO ?_
    (first | refine VO_q (Q_index rfl rfl TE.h TI.h (by omega) hgev) rfl ?_ | refine VQ_q (Q_index rfl rfl TE.h TI.h (by omega) hgev) rfl ?_ | (refine VO_bare rfl rfl rfl rfl ?_; refine VO_q (Q_index rfl rfl TE.h TI.h (by omega) hgev) rfl ?_) | refine VQ_run rfl rfl rfl rfl (Q_index rfl rfl TE.h TI.h (by omega) hgev) rfl ?_)
    (first | refine VO_q (Q_load rfl TI.h hst2 hsz2) rfl ?_ | refine VQ_q (Q_load rfl TI.h hst2 hsz2) rfl ?_ | (refine VO_bare rfl rfl rfl rfl ?_; refine VO_q (Q_load rfl TI.h hst2 hsz2) rfl ?_) | refine VQ_run rfl rfl rfl rfl (Q_load rfl TI.h hst2 hsz2) rfl ?_)
    (first | refine VO_q (Q_call rfl (ih _ hmem _ hmev) vA) rfl ?_ | refine VQ_q (Q_call rfl (ih _ hmem _ hmev) vA) rfl ?_ | (refine VO_bare rfl rfl rfl rfl ?_; refine VO_q (Q_call rfl (ih _ hmem _ hmev) vA) rfl ?_) | refine VQ_run rfl rfl rfl rfl (Q_call rfl (ih _ hmem _ hmev) vA) rfl ?_)
    refine gGO ?_
    refine V_cond rfl (fun hc3 => ?_) (fun hc3 => ?_)
    · refine gREG ?_
      refine gGO ?_
      refine V_ret ?_
      exact ⟨trivial, ⟨_, rfl, congrArg U.b (deq_false.2 (by intro h; injection h with _ h; subst h; rw [deq_self] at hc3; cases hc3)).symm⟩, trivial⟩
    refine V_skip ?_
    have heq : us[k] = vs[k] := deq_true.1 (by simpa using hc3)
    refine gGO ?_
    refine ⟨k + 1, ⟨by omega, fun j hj => ?_⟩, by omega, ⟨rfl, ⟨⟨rfl, rfl⟩, ⟨rfl, rfl⟩, ⟨rfl, rfl⟩, trivial⟩, ⟨[], rfl⟩, rfl⟩⟩
    by_cases hjk : j = k
    · subst hjk; rw [hget, hgev, heq]
    · exact hsame j (by omega)
  · refine V_exit ?_
    simp only [decide_eq_false_iff_not] at hc2
    have hkl : k = us.length := by omega
    subst hkl
    have hall : us = vs := by
      apply List.ext_getElem?
      intro j
      by_cases hj : j < us.length
      · exact hsame j hj
      · rw [List.getElem?_eq_none (by omega), List.getElem?_eq_none (by omega)]
    show V _ _ _ _ _
    refine gGO ?_
    refine V_ret ?_
    exact ⟨trivial, ⟨_, rfl, congrArg U.b (deq_true.2 (by rw [hall])).symm⟩, trivial⟩
theorem eqCoreArmCore_grp (u : U) : (∀ v, wt (.st 20) u → wt (.st 20) v → PEq 183 u v) ∧ (∀ v, wt (.st 21) u → wt (.st 21) v → PEq 104 u v) := by
  refine U.ind (M := fun u => (∀ v, wt (.st 20) u → wt (.st 20) v → PEq 183 u v) ∧ (∀ v, wt (.st 21) u → wt (.st 21) v → PEq 104 u v)) (fun u ih => ?_) u
  refine ⟨?_, ?_⟩
  · intro v h h2
    obtain ⟨f0, f1, f2, rfl, p0, p1, p2⟩ := inv_CoreArm h
    obtain ⟨d0, d1, d2, rfl, q0, q1, q2⟩ := inv_CoreArm h2
    exact eqCoreArm_step p0 q0 (eqStringS_all p1 q1) p2 q2 ((ih f2 (by simp only [U.nn, U.nns]; omega)).2 _ p2 q2)
  · intro v h h2
    obtain ⟨f0, f1, f2, f3, f4, f5, f6, f7, f8, rfl, p0, p1, p2, p3, p4, p5, p6, p7, p8⟩ := inv_Core h
    obtain ⟨d0, d1, d2, d3, d4, d5, d6, d7, d8, rfl, q0, q1, q2, q3, q4, q5, q6, q7, q8⟩ := inv_Core h2
    exact eqCore_step p1 q1 p2 q2 p4 q4 (eqType_all p4 q4) (eqTypeS_all p5 q5) (eqEvidenceS_all p6 q6) (eqCoreS_step p7.1 q7.1 (fun a ha => ⟨wt_isSt (p7.2 a ha), by rw [wt_sz a _ (p7.2 a ha)]; rfl⟩) (fun a ha => ⟨wt_isSt (q7.2 a ha), by rw [wt_sz a _ (q7.2 a ha)]; rfl⟩) (fun a ha b hb => (ih a (by have := nn_of_mem ha; simp only [U.nn, U.nns]; omega)).2 b (p7.2 a ha) (q7.2 b hb))) (eqCoreArmS_step p8.1 q8.1 (fun a ha => ⟨wt_isSt (p8.2 a ha), by rw [wt_sz a _ (p8.2 a ha)]; rfl⟩) (fun a ha => ⟨wt_isSt (q8.2 a ha), by rw [wt_sz a _ (q8.2 a ha)]; rfl⟩) (fun a ha b hb => (ih a (by have := nn_of_mem ha; simp only [U.nn, U.nns]; omega)).1 b (p8.2 a ha) (q8.2 b hb)))
theorem eqCore_all {u v : U} (h : wt (.st 21) u) (h2 : wt (.st 21) v) : PEq 104 u v := (eqCoreArmCore_grp u).2 v h h2
theorem eqUnit_step {f0 : Int} {f1 : Int} {f2 : Int} {f3 : Int} {f4 : List U} {f5 : List U} {f6 : List U} {f7 : U} {f8 : U} {d0 : Int} {d1 : Int} {d2 : Int} {d3 : Int} {d4 : List U} {d5 : List U} {d6 : List U} {d7 : U} {d8 : U} (h4 : PEq 100 (.sl 1 f4) (.sl 1 d4)) (h5 : PEq 101 (.sl 4 f5) (.sl 4 d5)) (h6 : PEq 102 (.sl 4 f6) (.sl 4 d6)) (g7 : wt (.st 1) f7) (j7 : wt (.st 1) d7) (h7 : PEq 103 f7 d7) (g8 : wt (.st 21) f8) (j8 : wt (.st 21) d8) (h8 : PEq 104 f8 d8) : PEq 54 (.st [.i .i64 f0, .i .i64 f1, .i .i64 f2, .i .i64 f3, .sl 1 f4, .sl 4 f5, .sl 4 f6, f7, f8]) (.st [.i .i64 d0, .i .i64 d1, .i .i64 d2, .i .i64 d3, .sl 1 d4, .sl 4 d5, .sl 4 d6, d7, d8]) := by
  obtain ⟨e85_0, e85_1, e85_2, rfl, g85_0, g85_1, g85_2⟩ := inv_Type g7
  obtain ⟨e86_0, e86_1, e86_2, rfl, g86_0, g86_1, g86_2⟩ := inv_Type j7
  obtain ⟨e87_0, e87_1, e87_2, e87_3, e87_4, e87_5, e87_6, e87_7, e87_8, rfl, g87_0, g87_1, g87_2, g87_3, g87_4, g87_5, g87_6, g87_7, g87_8⟩ := inv_Core g8
  obtain ⟨e88_0, e88_1, e88_2, rfl, g88_0, g88_1, g88_2⟩ := inv_Type g87_4
  obtain ⟨e89_0, e89_1, e89_2, e89_3, e89_4, e89_5, e89_6, e89_7, e89_8, rfl, g89_0, g89_1, g89_2, g89_3, g89_4, g89_5, g89_6, g89_7, g89_8⟩ := inv_Core j8
  obtain ⟨e90_0, e90_1, e90_2, rfl, g90_0, g90_1, g90_2⟩ := inv_Type g89_4
  refine SpecP_intro Tryz.func54 rfl (by kernel_rfl) rfl fun A _ => ?_
  refine gGO ?_
  refine V_cond rfl (fun hc => ?_) (fun hc => ?_)
  · refine gREG ?_
    refine gGO ?_
    refine V_ret ?_
    exact ⟨trivial, ⟨_, rfl, congrArg U.b (deq_false.2 (by intro h; injection h with h; injection h with q0 h; injection q0 with _ hk; simp [hk] at hc)).symm⟩, trivial⟩
  refine V_skip ?_
  have e0 := (by simpa using hc : f0 = d0)
  clear hc
  refine gGO ?_
  refine V_cond rfl (fun hc => ?_) (fun hc => ?_)
  · refine gREG ?_
    refine gGO ?_
    refine V_ret ?_
    exact ⟨trivial, ⟨_, rfl, congrArg U.b (deq_false.2 (by intro h; injection h with h; injection h with q0 h; injection h with q1 h; injection q1 with _ hk; simp [hk] at hc)).symm⟩, trivial⟩
  refine V_skip ?_
  have e1 := (by simpa using hc : f1 = d1)
  clear hc
  refine gGO ?_
  refine V_cond rfl (fun hc => ?_) (fun hc => ?_)
  · refine gREG ?_
    refine gGO ?_
    refine V_ret ?_
    exact ⟨trivial, ⟨_, rfl, congrArg U.b (deq_false.2 (by intro h; injection h with h; injection h with q0 h; injection h with q1 h; injection h with q2 h; injection q2 with _ hk; simp [hk] at hc)).symm⟩, trivial⟩
  refine V_skip ?_
  have e2 := (by simpa using hc : f2 = d2)
  clear hc
  refine gGO ?_
  refine V_cond rfl (fun hc => ?_) (fun hc => ?_)
  · refine gREG ?_
    refine gGO ?_
    refine V_ret ?_
    exact ⟨trivial, ⟨_, rfl, congrArg U.b (deq_false.2 (by intro h; injection h with h; injection h with q0 h; injection h with q1 h; injection h with q2 h; injection h with q3 h; injection q3 with _ hk; simp [hk] at hc)).symm⟩, trivial⟩
  refine V_skip ?_
  have e3 := (by simpa using hc : f3 = d3)
  clear hc
  refine gGO ?_
  (first | refine VO_q (Q_call rfl h4 vA) rfl ?_ | refine VQ_q (Q_call rfl h4 vA) rfl ?_ | (refine VO_bare rfl rfl rfl rfl ?_; refine VO_q (Q_call rfl h4 vA) rfl ?_) | refine VQ_run rfl rfl rfl rfl (Q_call rfl h4 vA) rfl ?_)
  refine gGO ?_
  refine V_cond rfl (fun hc => ?_) (fun hc => ?_)
  · refine gREG ?_
    refine gGO ?_
    refine V_ret ?_
    exact ⟨trivial, ⟨_, rfl, congrArg U.b (deq_false.2 (by intro h; injection h with h; injection h with q0 h; injection h with q1 h; injection h with q2 h; injection h with q3 h; injection h with q4 h; rw [q4, deq_self] at hc; cases hc)).symm⟩, trivial⟩
  refine V_skip ?_
  have e4 := deq_true.1 (by simpa using hc : deq _ _ = true)
  clear hc
  refine gGO ?_
  (first | refine VO_q (Q_call rfl h5 vA) rfl ?_ | refine VQ_q (Q_call rfl h5 vA) rfl ?_ | (refine VO_bare rfl rfl rfl rfl ?_; refine VO_q (Q_call rfl h5 vA) rfl ?_) | refine VQ_run rfl rfl rfl rfl (Q_call rfl h5 vA) rfl ?_)
  refine gGO ?_
  refine V_cond rfl (fun hc => ?_) (fun hc => ?_)
  · refine gREG ?_
    refine gGO ?_
    refine V_ret ?_
    exact ⟨trivial, ⟨_, rfl, congrArg U.b (deq_false.2 (by intro h; injection h with h; injection h with q0 h; injection h with q1 h; injection h with q2 h; injection h with q3 h; injection h with q4 h; injection h with q5 h; rw [q5, deq_self] at hc; cases hc)).symm⟩, trivial⟩
  refine V_skip ?_
  have e5 := deq_true.1 (by simpa using hc : deq _ _ = true)
  clear hc
  refine gGO ?_
  (first | refine VO_q (Q_call rfl h6 vA) rfl ?_ | refine VQ_q (Q_call rfl h6 vA) rfl ?_ | (refine VO_bare rfl rfl rfl rfl ?_; refine VO_q (Q_call rfl h6 vA) rfl ?_) | refine VQ_run rfl rfl rfl rfl (Q_call rfl h6 vA) rfl ?_)
  refine gGO ?_
  refine V_cond rfl (fun hc => ?_) (fun hc => ?_)
  · refine gREG ?_
    refine gGO ?_
    refine V_ret ?_
    exact ⟨trivial, ⟨_, rfl, congrArg U.b (deq_false.2 (by intro h; injection h with h; injection h with q0 h; injection h with q1 h; injection h with q2 h; injection h with q3 h; injection h with q4 h; injection h with q5 h; injection h with q6 h; rw [q6, deq_self] at hc; cases hc)).symm⟩, trivial⟩
  refine V_skip ?_
  have e6 := deq_true.1 (by simpa using hc : deq _ _ = true)
  clear hc
  refine gGO ?_
  (first | refine VO_q (Q_call rfl h7 vA) rfl ?_ | refine VQ_q (Q_call rfl h7 vA) rfl ?_ | (refine VO_bare rfl rfl rfl rfl ?_; refine VO_q (Q_call rfl h7 vA) rfl ?_) | refine VQ_run rfl rfl rfl rfl (Q_call rfl h7 vA) rfl ?_)
  refine gGO ?_
  refine V_cond rfl (fun hc => ?_) (fun hc => ?_)
  · refine gREG ?_
    refine gGO ?_
    refine V_ret ?_
    exact ⟨trivial, ⟨_, rfl, congrArg U.b (deq_false.2 (by intro h; injection h with h; injection h with q0 h; injection h with q1 h; injection h with q2 h; injection h with q3 h; injection h with q4 h; injection h with q5 h; injection h with q6 h; injection h with q7 h; rw [q7, deq_self] at hc; cases hc)).symm⟩, trivial⟩
  refine V_skip ?_
  have e7 := deq_true.1 (by simpa using hc : deq _ _ = true)
  clear hc
  refine gGO ?_
  (first | refine VO_q (Q_call rfl h8 vA) rfl ?_ | refine VQ_q (Q_call rfl h8 vA) rfl ?_ | (refine VO_bare rfl rfl rfl rfl ?_; refine VO_q (Q_call rfl h8 vA) rfl ?_) | refine VQ_run rfl rfl rfl rfl (Q_call rfl h8 vA) rfl ?_)
  refine gGO ?_
  refine V_cond rfl (fun hc => ?_) (fun hc => ?_)
  · refine gREG ?_
    refine gGO ?_
    refine V_ret ?_
    exact ⟨trivial, ⟨_, rfl, congrArg U.b (deq_false.2 (by intro h; injection h with h; injection h with q0 h; injection h with q1 h; injection h with q2 h; injection h with q3 h; injection h with q4 h; injection h with q5 h; injection h with q6 h; injection h with q7 h; injection h with q8 h; rw [q8, deq_self] at hc; cases hc)).symm⟩, trivial⟩
  refine V_skip ?_
  have e8 := deq_true.1 (by simpa using hc : deq _ _ = true)
  clear hc
  refine gGO ?_
  refine V_ret ?_
  exact ⟨trivial, ⟨_, rfl, congrArg U.b (deq_true.2 (by rw [e0, e1, e2, e3, e4, e5, e6, e7, e8])).symm⟩, trivial⟩
theorem eqUnitS_step {us vs : List U} (hb1 : us.length ≤ big) (hb2 : vs.length ≤ big) (hz : ∀ a ∈ us, a.isSt = true ∧ a.sz = 21) (hz2 : ∀ a ∈ vs, a.isSt = true ∧ a.sz = 21) (ih : ∀ a ∈ us, ∀ b ∈ vs, PEq 54 a b) : PEq 19 (.sl 21 us) (.sl 21 vs) := by
  rw [big_eq] at hb1 hb2
  refine SpecP_intro Tryz.func19 rfl (by kernel_rfl) rfl fun A _ => ?_
  refine gGO ?_
  refine V_cond rfl (fun hc => ?_) (fun hc => ?_)
  · refine gREG ?_
    refine gGO ?_
    refine V_ret ?_
    exact ⟨trivial, ⟨_, rfl, congrArg U.b (deq_false.2 (by intro h; injection h with _ h; subst h; simp at hc)).symm⟩, trivial⟩
  refine V_skip ?_
  have hll : us.length = vs.length := by simp at hc; omega
  refine gGO ?_
  refine V_block ?_
  refine V_loop (α := Nat)
    (fun k => ⟨[(0, .d (.sl 21 us)), (1, .d (.sl 21 vs)), (5, .d (.i .i64 k))], [], Tryz.f19.ntmps⟩)
    (fun k => k ≤ us.length ∧ ∀ j, j < k → us[j]? = vs[j]?)
    (fun k => us.length - k) 0 ⟨rfl, ⟨⟨rfl, rfl⟩, ⟨rfl, rfl⟩, ⟨rfl, rfl⟩, trivial⟩, ⟨[], rfl⟩, rfl⟩ ⟨by simp, by simp⟩ ?_
  rintro k ⟨hk, hsame⟩
  refine gGO ?_
  refine V_cond rfl (fun hc2 => ?_) (fun hc2 => ?_)
  · refine V_skip ?_
    simp only [decide_eq_true_eq] at hc2
    have hkl : k < us.length := by omega
    have hkv : k < vs.length := by omega
    have hget : us[k]? = some us[k] := List.getElem?_eq_getElem hkl
    have hgev : vs[k]? = some vs[k] := List.getElem?_eq_getElem hkv
    have hmem : us[k] ∈ us := List.getElem_mem hkl
    have hmev : vs[k] ∈ vs := List.getElem_mem hkv
    obtain ⟨hst, hsz⟩ := hz _ hmem
    obtain ⟨hst2, hsz2⟩ := hz2 _ hmev
    refine V_seq (V_block ?_)
    refine gGO ?_
    (first | refine VO_q (Q_index rfl rfl TE.h TI.h (by omega) hget) rfl ?_ | refine VQ_q (Q_index rfl rfl TE.h TI.h (by omega) hget) rfl ?_ | (refine VO_bare rfl rfl rfl rfl ?_; refine VO_q (Q_index rfl rfl TE.h TI.h (by omega) hget) rfl ?_) | refine VQ_run rfl rfl rfl rfl (Q_index rfl rfl TE.h TI.h (by omega) hget) rfl ?_)
    (first | refine VO_q (Q_load rfl TI.h hst hsz) rfl ?_ | refine VQ_q (Q_load rfl TI.h hst hsz) rfl ?_ | (refine VO_bare rfl rfl rfl rfl ?_; refine VO_q (Q_load rfl TI.h hst hsz) rfl ?_) | refine VQ_run rfl rfl rfl rfl (Q_load rfl TI.h hst hsz) rfl ?_)
    refine gGO ?_
    (first | refine VO_q (Q_index rfl rfl TE.h TI.h (by omega) hgev) rfl ?_ | refine VQ_q (Q_index rfl rfl TE.h TI.h (by omega) hgev) rfl ?_ | (refine VO_bare rfl rfl rfl rfl ?_; refine VO_q (Q_index rfl rfl TE.h TI.h (by omega) hgev) rfl ?_) | refine VQ_run rfl rfl rfl rfl (Q_index rfl rfl TE.h TI.h (by omega) hgev) rfl ?_)
    (first | refine VO_q (Q_load rfl TI.h hst2 hsz2) rfl ?_ | refine VQ_q (Q_load rfl TI.h hst2 hsz2) rfl ?_ | (refine VO_bare rfl rfl rfl rfl ?_; refine VO_q (Q_load rfl TI.h hst2 hsz2) rfl ?_) | refine VQ_run rfl rfl rfl rfl (Q_load rfl TI.h hst2 hsz2) rfl ?_)
    (first | refine VO_q (Q_call rfl (ih _ hmem _ hmev) vA) rfl ?_ | refine VQ_q (Q_call rfl (ih _ hmem _ hmev) vA) rfl ?_ | (refine VO_bare rfl rfl rfl rfl ?_; refine VO_q (Q_call rfl (ih _ hmem _ hmev) vA) rfl ?_) | refine VQ_run rfl rfl rfl rfl (Q_call rfl (ih _ hmem _ hmev) vA) rfl ?_)
    refine gGO ?_
    refine V_cond rfl (fun hc3 => ?_) (fun hc3 => ?_)
    · refine gREG ?_
      refine gGO ?_
      refine V_ret ?_
      exact ⟨trivial, ⟨_, rfl, congrArg U.b (deq_false.2 (by intro h; injection h with _ h; subst h; rw [deq_self] at hc3; cases hc3)).symm⟩, trivial⟩
    refine V_skip ?_
    have heq : us[k] = vs[k] := deq_true.1 (by simpa using hc3)
    refine gGO ?_
    refine ⟨k + 1, ⟨by omega, fun j hj => ?_⟩, by omega, ⟨rfl, ⟨⟨rfl, rfl⟩, ⟨rfl, rfl⟩, ⟨rfl, rfl⟩, trivial⟩, ⟨[], rfl⟩, rfl⟩⟩
    by_cases hjk : j = k
    · subst hjk; rw [hget, hgev, heq]
    · exact hsame j (by omega)
  · refine V_exit ?_
    simp only [decide_eq_false_iff_not] at hc2
    have hkl : k = us.length := by omega
    subst hkl
    have hall : us = vs := by
      apply List.ext_getElem?
      intro j
      by_cases hj : j < us.length
      · exact hsame j hj
      · rw [List.getElem?_eq_none (by omega), List.getElem?_eq_none (by omega)]
    show V _ _ _ _ _
    refine gGO ?_
    refine V_ret ?_
    exact ⟨trivial, ⟨_, rfl, congrArg U.b (deq_true.2 (by rw [hall])).symm⟩, trivial⟩
theorem eqUnit_grp (u : U) : (∀ v, wt (.st 25) u → wt (.st 25) v → PEq 54 u v) := by
  refine U.ind (M := fun u => (∀ v, wt (.st 25) u → wt (.st 25) v → PEq 54 u v)) (fun u ih => ?_) u
  refine ?_
  · intro v h h2
    obtain ⟨f0, f1, f2, f3, f4, f5, f6, f7, f8, rfl, p0, p1, p2, p3, p4, p5, p6, p7, p8⟩ := inv_Unit h
    obtain ⟨d0, d1, d2, d3, d4, d5, d6, d7, d8, rfl, q0, q1, q2, q3, q4, q5, q6, q7, q8⟩ := inv_Unit h2
    exact eqUnit_step (eqStringS_all p4 q4) (eqBoundS_all p5 q5) (eqParamS_all p6 q6) p7 q7 (eqType_all p7 q7) p8 q8 (eqCore_all p8 q8)
theorem eqUnit_all {u v : U} (h : wt (.st 25) u) (h2 : wt (.st 25) v) : PEq 54 u v := (eqUnit_grp u) v h h2
theorem eqUnitS_all {us vs : List U} (h : us.length ≤ big ∧ ∀ x ∈ us, wt (.st 25) x) (h2 : vs.length ≤ big ∧ ∀ x ∈ vs, wt (.st 25) x) : PEq 19 (.sl 21 us) (.sl 21 vs) := eqUnitS_step h.1 h2.1 (fun a ha => ⟨wt_isSt (h.2 a ha), by rw [wt_sz a _ (h.2 a ha)]; rfl⟩) (fun a ha => ⟨wt_isSt (h2.2 a ha), by rw [wt_sz a _ (h2.2 a ha)]; rfl⟩) (fun a ha b hb => eqUnit_all (h.2 a ha) (h2.2 b hb))
theorem eqIntS_step {us vs : List U} (hb1 : us.length ≤ big) (hb2 : vs.length ≤ big) (hz : ∀ a ∈ us, ∃ n : Int, a = .i .i64 n ∧ inRange n) (hz2 : ∀ a ∈ vs, ∃ n : Int, a = .i .i64 n ∧ inRange n) : PEq 56 (.sl 1 us) (.sl 1 vs) := by
  rw [big_eq] at hb1 hb2
  refine SpecP_intro Tryz.func56 rfl (by kernel_rfl) rfl fun A _ => ?_
  refine gGO ?_
  refine V_cond rfl (fun hc => ?_) (fun hc => ?_)
  · refine gREG ?_
    refine gGO ?_
    refine V_ret ?_
    exact ⟨trivial, ⟨_, rfl, congrArg U.b (deq_false.2 (by intro h; injection h with _ h; subst h; simp at hc)).symm⟩, trivial⟩
  refine V_skip ?_
  have hll : us.length = vs.length := by simp at hc; omega
  refine gGO ?_
  refine V_block ?_
  refine V_loop (α := Nat)
    (fun k => ⟨[(0, .d (.sl 1 us)), (1, .d (.sl 1 vs)), (5, .d (.i .i64 k))], [], Tryz.f56.ntmps⟩)
    (fun k => k ≤ us.length ∧ ∀ j, j < k → us[j]? = vs[j]?)
    (fun k => us.length - k) 0 ⟨rfl, ⟨⟨rfl, rfl⟩, ⟨rfl, rfl⟩, ⟨rfl, rfl⟩, trivial⟩, ⟨[], rfl⟩, rfl⟩ ⟨by simp, by simp⟩ ?_
  rintro k ⟨hk, hsame⟩
  refine gGO ?_
  refine V_cond rfl (fun hc2 => ?_) (fun hc2 => ?_)
  · refine V_skip ?_
    simp only [decide_eq_true_eq] at hc2
    have hkl : k < us.length := by omega
    have hkv : k < vs.length := by omega
    have hget : us[k]? = some us[k] := List.getElem?_eq_getElem hkl
    have hgev : vs[k]? = some vs[k] := List.getElem?_eq_getElem hkv
    have hmem : us[k] ∈ us := List.getElem_mem hkl
    have hmev : vs[k] ∈ vs := List.getElem_mem hkv
    obtain ⟨l1, h1, _⟩ := hz _ hmem
    obtain ⟨l2, h2, _⟩ := hz2 _ hmev
    have hg1 : us[k]? = some (.i .i64 l1) := by rw [hget, h1]
    have hg2 : vs[k]? = some (.i .i64 l2) := by rw [hgev, h2]
    refine V_seq (V_block ?_)
    refine gGO ?_
    (first | refine VO_q (Q_index rfl rfl TE.h TI.h (by omega) hg1) rfl ?_ | refine VQ_q (Q_index rfl rfl TE.h TI.h (by omega) hg1) rfl ?_ | (refine VO_bare rfl rfl rfl rfl ?_; refine VO_q (Q_index rfl rfl TE.h TI.h (by omega) hg1) rfl ?_) | refine VQ_run rfl rfl rfl rfl (Q_index rfl rfl TE.h TI.h (by omega) hg1) rfl ?_)
    refine gGO ?_
    (first | refine VO_q (Q_index rfl rfl TE.h TI.h (by omega) hg2) rfl ?_ | refine VQ_q (Q_index rfl rfl TE.h TI.h (by omega) hg2) rfl ?_ | (refine VO_bare rfl rfl rfl rfl ?_; refine VO_q (Q_index rfl rfl TE.h TI.h (by omega) hg2) rfl ?_) | refine VQ_run rfl rfl rfl rfl (Q_index rfl rfl TE.h TI.h (by omega) hg2) rfl ?_)
    refine gGO ?_
    refine V_cond rfl (fun hc3 => ?_) (fun hc3 => ?_)
    · refine gREG ?_
      refine gGO ?_
      refine V_ret ?_
      exact ⟨trivial, ⟨_, rfl, congrArg U.b (deq_false.2 (by intro h; injection h with _ h; subst h; rw [hg1] at hg2; injection hg2 with hg2; injection hg2; simp_all)).symm⟩, trivial⟩
    refine V_skip ?_
    have heq : us[k] = vs[k] := by rw [h1, h2]; simp at hc3; rw [hc3]
    refine gGO ?_
    refine ⟨k + 1, ⟨by omega, fun j hj => ?_⟩, by omega, ⟨rfl, ⟨⟨rfl, rfl⟩, ⟨rfl, rfl⟩, ⟨rfl, rfl⟩, trivial⟩, ⟨[], rfl⟩, rfl⟩⟩
    by_cases hjk : j = k
    · subst hjk; rw [hget, hgev, heq]
    · exact hsame j (by omega)
  · refine V_exit ?_
    simp only [decide_eq_false_iff_not] at hc2
    have hkl : k = us.length := by omega
    subst hkl
    have hall : us = vs := by
      apply List.ext_getElem?
      intro j
      by_cases hj : j < us.length
      · exact hsame j hj
      · rw [List.getElem?_eq_none (by omega), List.getElem?_eq_none (by omega)]
    show V _ _ _ _ _
    refine gGO ?_
    refine V_ret ?_
    exact ⟨trivial, ⟨_, rfl, congrArg U.b (deq_true.2 (by rw [hall])).symm⟩, trivial⟩
theorem eqIntS_all {us vs : List U} (h : us.length ≤ big ∧ ∀ x ∈ us, wt .int x) (h2 : vs.length ≤ big ∧ ∀ x ∈ vs, wt .int x) : PEq 56 (.sl 1 us) (.sl 1 vs) := eqIntS_step h.1 h2.1 (fun a ha => inv_int (h.2 a ha)) (fun a ha => inv_int (h2.2 a ha))
theorem eqDictionary_step {f0 : Int} {f1 : U} {f2 : List U} {f3 : List U} {d0 : Int} {d1 : U} {d2 : List U} {d3 : List U} (g1 : wt (.st 16) f1) (j1 : wt (.st 16) d1) (h1 : PEq 55 f1 d1) (h2 : PEq 56 (.sl 1 f2) (.sl 1 d2)) (h3 : PEq 18 (.sl 5 f3) (.sl 5 d3)) : PEq 20 (.st [.i .i64 f0, f1, .sl 1 f2, .sl 5 f3]) (.st [.i .i64 d0, d1, .sl 1 d2, .sl 5 d3]) := by
  obtain ⟨e91_0, e91_1, rfl, g91_0, g91_1⟩ := inv_InstanceRef g1
  obtain ⟨e92_0, e92_1, rfl, g92_0, g92_1⟩ := inv_InstanceRef j1
  refine SpecP_intro Tryz.func20 rfl (by kernel_rfl) rfl fun A _ => ?_
  refine gGO ?_
  refine V_cond rfl (fun hc => ?_) (fun hc => ?_)
  · refine gREG ?_
    refine gGO ?_
    refine V_ret ?_
    exact ⟨trivial, ⟨_, rfl, congrArg U.b (deq_false.2 (by intro h; injection h with h; injection h with q0 h; injection q0 with _ hk; simp [hk] at hc)).symm⟩, trivial⟩
  refine V_skip ?_
  have e0 := (by simpa using hc : f0 = d0)
  clear hc
  refine gGO ?_
  (first | refine VO_q (Q_call rfl h1 vA) rfl ?_ | refine VQ_q (Q_call rfl h1 vA) rfl ?_ | (refine VO_bare rfl rfl rfl rfl ?_; refine VO_q (Q_call rfl h1 vA) rfl ?_) | refine VQ_run rfl rfl rfl rfl (Q_call rfl h1 vA) rfl ?_)
  refine gGO ?_
  refine V_cond rfl (fun hc => ?_) (fun hc => ?_)
  · refine gREG ?_
    refine gGO ?_
    refine V_ret ?_
    exact ⟨trivial, ⟨_, rfl, congrArg U.b (deq_false.2 (by intro h; injection h with h; injection h with q0 h; injection h with q1 h; rw [q1, deq_self] at hc; cases hc)).symm⟩, trivial⟩
  refine V_skip ?_
  have e1 := deq_true.1 (by simpa using hc : deq _ _ = true)
  clear hc
  refine gGO ?_
  (first | refine VO_q (Q_call rfl h2 vA) rfl ?_ | refine VQ_q (Q_call rfl h2 vA) rfl ?_ | (refine VO_bare rfl rfl rfl rfl ?_; refine VO_q (Q_call rfl h2 vA) rfl ?_) | refine VQ_run rfl rfl rfl rfl (Q_call rfl h2 vA) rfl ?_)
  refine gGO ?_
  refine V_cond rfl (fun hc => ?_) (fun hc => ?_)
  · refine gREG ?_
    refine gGO ?_
    refine V_ret ?_
    exact ⟨trivial, ⟨_, rfl, congrArg U.b (deq_false.2 (by intro h; injection h with h; injection h with q0 h; injection h with q1 h; injection h with q2 h; rw [q2, deq_self] at hc; cases hc)).symm⟩, trivial⟩
  refine V_skip ?_
  have e2 := deq_true.1 (by simpa using hc : deq _ _ = true)
  clear hc
  refine gGO ?_
  (first | refine VO_q (Q_call rfl h3 vA) rfl ?_ | refine VQ_q (Q_call rfl h3 vA) rfl ?_ | (refine VO_bare rfl rfl rfl rfl ?_; refine VO_q (Q_call rfl h3 vA) rfl ?_) | refine VQ_run rfl rfl rfl rfl (Q_call rfl h3 vA) rfl ?_)
  refine gGO ?_
  refine V_cond rfl (fun hc => ?_) (fun hc => ?_)
  · refine gREG ?_
    refine gGO ?_
    refine V_ret ?_
    exact ⟨trivial, ⟨_, rfl, congrArg U.b (deq_false.2 (by intro h; injection h with h; injection h with q0 h; injection h with q1 h; injection h with q2 h; injection h with q3 h; rw [q3, deq_self] at hc; cases hc)).symm⟩, trivial⟩
  refine V_skip ?_
  have e3 := deq_true.1 (by simpa using hc : deq _ _ = true)
  clear hc
  refine gGO ?_
  refine V_ret ?_
  exact ⟨trivial, ⟨_, rfl, congrArg U.b (deq_true.2 (by rw [e0, e1, e2, e3])).symm⟩, trivial⟩
theorem eqDictionaryS_step {us vs : List U} (hb1 : us.length ≤ big) (hb2 : vs.length ≤ big) (hz : ∀ a ∈ us, a.isSt = true ∧ a.sz = 5) (hz2 : ∀ a ∈ vs, a.isSt = true ∧ a.sz = 5) (ih : ∀ a ∈ us, ∀ b ∈ vs, PEq 20 a b) : PEq 18 (.sl 5 us) (.sl 5 vs) := by
  rw [big_eq] at hb1 hb2
  refine SpecP_intro Tryz.func18 rfl (by kernel_rfl) rfl fun A _ => ?_
  refine gGO ?_
  refine V_cond rfl (fun hc => ?_) (fun hc => ?_)
  · refine gREG ?_
    refine gGO ?_
    refine V_ret ?_
    exact ⟨trivial, ⟨_, rfl, congrArg U.b (deq_false.2 (by intro h; injection h with _ h; subst h; simp at hc)).symm⟩, trivial⟩
  refine V_skip ?_
  have hll : us.length = vs.length := by simp at hc; omega
  refine gGO ?_
  refine V_block ?_
  refine V_loop (α := Nat)
    (fun k => ⟨[(0, .d (.sl 5 us)), (1, .d (.sl 5 vs)), (5, .d (.i .i64 k))], [], Tryz.f18.ntmps⟩)
    (fun k => k ≤ us.length ∧ ∀ j, j < k → us[j]? = vs[j]?)
    (fun k => us.length - k) 0 ⟨rfl, ⟨⟨rfl, rfl⟩, ⟨rfl, rfl⟩, ⟨rfl, rfl⟩, trivial⟩, ⟨[], rfl⟩, rfl⟩ ⟨by simp, by simp⟩ ?_
  rintro k ⟨hk, hsame⟩
  refine gGO ?_
  refine V_cond rfl (fun hc2 => ?_) (fun hc2 => ?_)
  · refine V_skip ?_
    simp only [decide_eq_true_eq] at hc2
    have hkl : k < us.length := by omega
    have hkv : k < vs.length := by omega
    have hget : us[k]? = some us[k] := List.getElem?_eq_getElem hkl
    have hgev : vs[k]? = some vs[k] := List.getElem?_eq_getElem hkv
    have hmem : us[k] ∈ us := List.getElem_mem hkl
    have hmev : vs[k] ∈ vs := List.getElem_mem hkv
    obtain ⟨hst, hsz⟩ := hz _ hmem
    obtain ⟨hst2, hsz2⟩ := hz2 _ hmev
    refine V_seq (V_block ?_)
    refine gGO ?_
    (first | refine VO_q (Q_index rfl rfl TE.h TI.h (by omega) hget) rfl ?_ | refine VQ_q (Q_index rfl rfl TE.h TI.h (by omega) hget) rfl ?_ | (refine VO_bare rfl rfl rfl rfl ?_; refine VO_q (Q_index rfl rfl TE.h TI.h (by omega) hget) rfl ?_) | refine VQ_run rfl rfl rfl rfl (Q_index rfl rfl TE.h TI.h (by omega) hget) rfl ?_)
    (first | refine VO_q (Q_load rfl TI.h hst hsz) rfl ?_ | refine VQ_q (Q_load rfl TI.h hst hsz) rfl ?_ | (refine VO_bare rfl rfl rfl rfl ?_; refine VO_q (Q_load rfl TI.h hst hsz) rfl ?_) | refine VQ_run rfl rfl rfl rfl (Q_load rfl TI.h hst hsz) rfl ?_)
    refine gGO ?_
    (first | refine VO_q (Q_index rfl rfl TE.h TI.h (by omega) hgev) rfl ?_ | refine VQ_q (Q_index rfl rfl TE.h TI.h (by omega) hgev) rfl ?_ | (refine VO_bare rfl rfl rfl rfl ?_; refine VO_q (Q_index rfl rfl TE.h TI.h (by omega) hgev) rfl ?_) | refine VQ_run rfl rfl rfl rfl (Q_index rfl rfl TE.h TI.h (by omega) hgev) rfl ?_)
    (first | refine VO_q (Q_load rfl TI.h hst2 hsz2) rfl ?_ | refine VQ_q (Q_load rfl TI.h hst2 hsz2) rfl ?_ | (refine VO_bare rfl rfl rfl rfl ?_; refine VO_q (Q_load rfl TI.h hst2 hsz2) rfl ?_) | refine VQ_run rfl rfl rfl rfl (Q_load rfl TI.h hst2 hsz2) rfl ?_)
    (first | refine VO_q (Q_call rfl (ih _ hmem _ hmev) vA) rfl ?_ | refine VQ_q (Q_call rfl (ih _ hmem _ hmev) vA) rfl ?_ | (refine VO_bare rfl rfl rfl rfl ?_; refine VO_q (Q_call rfl (ih _ hmem _ hmev) vA) rfl ?_) | refine VQ_run rfl rfl rfl rfl (Q_call rfl (ih _ hmem _ hmev) vA) rfl ?_)
    refine gGO ?_
    refine V_cond rfl (fun hc3 => ?_) (fun hc3 => ?_)
    · refine gREG ?_
      refine gGO ?_
      refine V_ret ?_
      exact ⟨trivial, ⟨_, rfl, congrArg U.b (deq_false.2 (by intro h; injection h with _ h; subst h; rw [deq_self] at hc3; cases hc3)).symm⟩, trivial⟩
    refine V_skip ?_
    have heq : us[k] = vs[k] := deq_true.1 (by simpa using hc3)
    refine gGO ?_
    refine ⟨k + 1, ⟨by omega, fun j hj => ?_⟩, by omega, ⟨rfl, ⟨⟨rfl, rfl⟩, ⟨rfl, rfl⟩, ⟨rfl, rfl⟩, trivial⟩, ⟨[], rfl⟩, rfl⟩⟩
    by_cases hjk : j = k
    · subst hjk; rw [hget, hgev, heq]
    · exact hsame j (by omega)
  · refine V_exit ?_
    simp only [decide_eq_false_iff_not] at hc2
    have hkl : k = us.length := by omega
    subst hkl
    have hall : us = vs := by
      apply List.ext_getElem?
      intro j
      by_cases hj : j < us.length
      · exact hsame j hj
      · rw [List.getElem?_eq_none (by omega), List.getElem?_eq_none (by omega)]
    show V _ _ _ _ _
    refine gGO ?_
    refine V_ret ?_
    exact ⟨trivial, ⟨_, rfl, congrArg U.b (deq_true.2 (by rw [hall])).symm⟩, trivial⟩
theorem eqDictionary_grp (u : U) : (∀ v, wt (.st 26) u → wt (.st 26) v → PEq 20 u v) := by
  refine U.ind (M := fun u => (∀ v, wt (.st 26) u → wt (.st 26) v → PEq 20 u v)) (fun u ih => ?_) u
  refine ?_
  · intro v h h2
    obtain ⟨f0, f1, f2, f3, rfl, p0, p1, p2, p3⟩ := inv_Dictionary h
    obtain ⟨d0, d1, d2, d3, rfl, q0, q1, q2, q3⟩ := inv_Dictionary h2
    exact eqDictionary_step p1 q1 (eqInstanceRef_all p1 q1) (eqIntS_all p2 q2) (eqDictionaryS_step p3.1 q3.1 (fun a ha => ⟨wt_isSt (p3.2 a ha), by rw [wt_sz a _ (p3.2 a ha)]; rfl⟩) (fun a ha => ⟨wt_isSt (q3.2 a ha), by rw [wt_sz a _ (q3.2 a ha)]; rfl⟩) (fun a ha b hb => (ih a (by have := nn_of_mem ha; simp only [U.nn, U.nns]; omega)) b (p3.2 a ha) (q3.2 b hb)))
theorem eqDictionary_all {u v : U} (h : wt (.st 26) u) (h2 : wt (.st 26) v) : PEq 20 u v := (eqDictionary_grp u) v h h2
theorem eqDictionaryS_all {us vs : List U} (h : us.length ≤ big ∧ ∀ x ∈ us, wt (.st 26) x) (h2 : vs.length ≤ big ∧ ∀ x ∈ vs, wt (.st 26) x) : PEq 18 (.sl 5 us) (.sl 5 vs) := eqDictionaryS_step h.1 h2.1 (fun a ha => ⟨wt_isSt (h.2 a ha), by rw [wt_sz a _ (h.2 a ha)]; rfl⟩) (fun a ha => ⟨wt_isSt (h2.2 a ha), by rw [wt_sz a _ (h2.2 a ha)]; rfl⟩) (fun a ha b hb => eqDictionary_all (h.2 a ha) (h2.2 b hb))
end Go.Proofs.YthojhakapbfbiaaGreat
