/- EvalPrim of the program and of the reference. Written by a program of mine. -/
import Derived.Test.YtjckkahiapjkfaaMarkV
import Derived.Test.YtjckkahiapjkfaaEng29
set_option linter.unusedVariables false
set_option linter.unusedSimpArgs false
namespace Go.Proofs.Ytjckkahiapjkfaa
open Go Go.Eng
attribute [local irreducible] V VO VQ VY Quiet SpecP SpecO MSpec

abbrev vv (k n : Int) : U := .st [.i .i64 k, .i .i64 n, .s [], .st [.i .i64 0, .st [.i .i64 0, .i .i64 0], .sl 1 [], .sl 5 []], .sl 9 []]
def evP (nm : List UInt8) (k1 n1 k2 n2 : Int) : (Int × Int) × Bool :=
  bif k1 != 1 then ((0, 0), false) else bif k2 != 1 then ((0, 0), false) else
  bif nm == [43] then ((1, IntKind.i64.wrap (n1 + n2)), true) else bif nm == [45] then ((1, IntKind.i64.wrap (n1 - n2)), true) else bif nm == [42] then ((1, IntKind.i64.wrap (n1 * n2)), true) else
  bif nm == [60] then ((2, bif decide (n1 < n2) then 1 else 0), true) else bif nm == [61] then ((2, bif n1 == n2 then 1 else 0), true) else ((0, 0), false)

set_option maxHeartbeats 4000000 in
theorem implTruth (x : Bool) : SpecO Try.prog 45 [.d (.b x)] [3, 49, 52] [vv 2 (bif x then 1 else 0)] := by
  cases x
  · show SpecO _ _ _ _ [vv 2 0]
    refine SpecO_intro Try.func45 rfl (by kernel_rfl) rfl (by simp) fun A => ?_
    repeat (first | refine VO_d ?_ | refine VQ_d ?_ | (first | refine VO_q (Q_build TBd.h TZ.h rfl (by repeat constructor)) rfl ?_ | refine VQ_q (Q_build TBd.h TZ.h rfl (by repeat constructor)) rfl ?_ | (refine VO_bare rfl rfl rfl rfl ?_; refine VO_q (Q_build TBd.h TZ.h rfl (by repeat constructor)) rfl ?_) | refine VQ_run rfl rfl rfl rfl (Q_build TBd.h TZ.h rfl (by repeat constructor)) rfl ?_) | (first | refine VO_q (Q_ar rfl rfl rfl) rfl ?_ | refine VQ_q (Q_ar rfl rfl rfl) rfl ?_ | (refine VO_bare rfl rfl rfl rfl ?_; refine VO_q (Q_ar rfl rfl rfl) rfl ?_) | refine VQ_run rfl rfl rfl rfl (Q_ar rfl rfl rfl) rfl ?_) | (first | refine VO_nil ?_ | refine VQ_nil ?_) | (first | refine V_seq_region ?_ | refine V_seq (V_seq_region ?_) | refine V_seq_draw tmix (by kernel_rfl) ?_ | refine V_seq (V_seq_draw tmix (by kernel_rfl) ?_) | refine V_region ?_ | refine V_draw tmix (by kernel_rfl) ?_))
    (first | refine V_cond rfl (fun hc => ?_) (fun hc => ?_) | refine V_seq (V_cond rfl (fun hc => ?_) (fun hc => ?_)))
    · cases hc
    refine V_skip ?_
    repeat (first | refine VO_d ?_ | refine VQ_d ?_ | (first | refine VO_q (Q_build TBd.h TZ.h rfl (by repeat constructor)) rfl ?_ | refine VQ_q (Q_build TBd.h TZ.h rfl (by repeat constructor)) rfl ?_ | (refine VO_bare rfl rfl rfl rfl ?_; refine VO_q (Q_build TBd.h TZ.h rfl (by repeat constructor)) rfl ?_) | refine VQ_run rfl rfl rfl rfl (Q_build TBd.h TZ.h rfl (by repeat constructor)) rfl ?_) | (first | refine VO_q (Q_ar rfl rfl rfl) rfl ?_ | refine VQ_q (Q_ar rfl rfl rfl) rfl ?_ | (refine VO_bare rfl rfl rfl rfl ?_; refine VO_q (Q_ar rfl rfl rfl) rfl ?_) | refine VQ_run rfl rfl rfl rfl (Q_ar rfl rfl rfl) rfl ?_) | (first | refine VO_nil ?_ | refine VQ_nil ?_) | (first | refine V_seq_region ?_ | refine V_seq (V_seq_region ?_) | refine V_seq_draw tmix (by kernel_rfl) ?_ | refine V_seq (V_seq_draw tmix (by kernel_rfl) ?_) | refine V_region ?_ | refine V_draw tmix (by kernel_rfl) ?_))
    refine V_adopt 3 1 0 6 rfl rfl (by repeat constructor) (by repeat constructor) (by repeat constructor) (by repeat constructor) ?_
    refine V_adopt 49 5 0 7 rfl rfl (by repeat constructor) (by repeat constructor) (by repeat constructor) (by repeat constructor) ?_
    refine V_adopt 52 9 0 8 rfl rfl (by repeat constructor) (by repeat constructor) (by repeat constructor) (by repeat constructor) ?_
    refine V_ret ?_
    exact ⟨trivial, _, (by repeat (first | exact rfl | exact ResV_ag rfl rfl TI.h rfl rfl | exact ResV_one rfl rfl TI.h rfl | constructor)), by decide⟩
  · show SpecO _ _ _ _ [vv 2 1]
    refine SpecO_intro Try.func45 rfl (by kernel_rfl) rfl (by simp) fun A => ?_
    repeat (first | refine VO_d ?_ | refine VQ_d ?_ | (first | refine VO_q (Q_build TBd.h TZ.h rfl (by repeat constructor)) rfl ?_ | refine VQ_q (Q_build TBd.h TZ.h rfl (by repeat constructor)) rfl ?_ | (refine VO_bare rfl rfl rfl rfl ?_; refine VO_q (Q_build TBd.h TZ.h rfl (by repeat constructor)) rfl ?_) | refine VQ_run rfl rfl rfl rfl (Q_build TBd.h TZ.h rfl (by repeat constructor)) rfl ?_) | (first | refine VO_q (Q_ar rfl rfl rfl) rfl ?_ | refine VQ_q (Q_ar rfl rfl rfl) rfl ?_ | (refine VO_bare rfl rfl rfl rfl ?_; refine VO_q (Q_ar rfl rfl rfl) rfl ?_) | refine VQ_run rfl rfl rfl rfl (Q_ar rfl rfl rfl) rfl ?_) | (first | refine VO_nil ?_ | refine VQ_nil ?_) | (first | refine V_seq_region ?_ | refine V_seq (V_seq_region ?_) | refine V_seq_draw tmix (by kernel_rfl) ?_ | refine V_seq (V_seq_draw tmix (by kernel_rfl) ?_) | refine V_region ?_ | refine V_draw tmix (by kernel_rfl) ?_))
    (first | refine V_cond rfl (fun hc => ?_) (fun hc => ?_) | refine V_seq (V_cond rfl (fun hc => ?_) (fun hc => ?_)))
    · repeat (first | refine VO_d ?_ | refine VQ_d ?_ | (first | refine VO_q (Q_build TBd.h TZ.h rfl (by repeat constructor)) rfl ?_ | refine VQ_q (Q_build TBd.h TZ.h rfl (by repeat constructor)) rfl ?_ | (refine VO_bare rfl rfl rfl rfl ?_; refine VO_q (Q_build TBd.h TZ.h rfl (by repeat constructor)) rfl ?_) | refine VQ_run rfl rfl rfl rfl (Q_build TBd.h TZ.h rfl (by repeat constructor)) rfl ?_) | (first | refine VO_q (Q_ar rfl rfl rfl) rfl ?_ | refine VQ_q (Q_ar rfl rfl rfl) rfl ?_ | (refine VO_bare rfl rfl rfl rfl ?_; refine VO_q (Q_ar rfl rfl rfl) rfl ?_) | refine VQ_run rfl rfl rfl rfl (Q_ar rfl rfl rfl) rfl ?_) | (first | refine VO_nil ?_ | refine VQ_nil ?_) | (first | refine V_seq_region ?_ | refine V_seq (V_seq_region ?_) | refine V_seq_draw tmix (by kernel_rfl) ?_ | refine V_seq (V_seq_draw tmix (by kernel_rfl) ?_) | refine V_region ?_ | refine V_draw tmix (by kernel_rfl) ?_))
      refine V_adopt 3 1 0 6 rfl rfl (by repeat constructor) (by repeat constructor) (by repeat constructor) (by repeat constructor) ?_
      refine V_adopt 49 5 0 7 rfl rfl (by repeat constructor) (by repeat constructor) (by repeat constructor) (by repeat constructor) ?_
      refine V_adopt 52 9 0 8 rfl rfl (by repeat constructor) (by repeat constructor) (by repeat constructor) (by repeat constructor) ?_
      refine V_ret ?_
      exact ⟨trivial, _, (by repeat (first | exact rfl | exact ResV_ag rfl rfl TI.h rfl rfl | exact ResV_one rfl rfl TI.h rfl | constructor)), by decide⟩
    · cases hc

set_option maxHeartbeats 4000000 in
theorem specTruth (x : Bool) : SpecO Try.prog 42 [.d (.b x)] [3, 49, 52] [vv 2 (bif x then 1 else 0)] := by
  cases x
  · show SpecO _ _ _ _ [vv 2 0]
    refine SpecO_intro Try.func42 rfl (by kernel_rfl) rfl (by simp) fun A => ?_
    repeat (first | refine VO_d ?_ | refine VQ_d ?_ | (first | refine VO_q (Q_build TBd.h TZ.h rfl (by repeat constructor)) rfl ?_ | refine VQ_q (Q_build TBd.h TZ.h rfl (by repeat constructor)) rfl ?_ | (refine VO_bare rfl rfl rfl rfl ?_; refine VO_q (Q_build TBd.h TZ.h rfl (by repeat constructor)) rfl ?_) | refine VQ_run rfl rfl rfl rfl (Q_build TBd.h TZ.h rfl (by repeat constructor)) rfl ?_) | (first | refine VO_q (Q_ar rfl rfl rfl) rfl ?_ | refine VQ_q (Q_ar rfl rfl rfl) rfl ?_ | (refine VO_bare rfl rfl rfl rfl ?_; refine VO_q (Q_ar rfl rfl rfl) rfl ?_) | refine VQ_run rfl rfl rfl rfl (Q_ar rfl rfl rfl) rfl ?_) | (first | refine VO_nil ?_ | refine VQ_nil ?_) | (first | refine V_seq_region ?_ | refine V_seq (V_seq_region ?_) | refine V_seq_draw tmix (by kernel_rfl) ?_ | refine V_seq (V_seq_draw tmix (by kernel_rfl) ?_) | refine V_region ?_ | refine V_draw tmix (by kernel_rfl) ?_))
    (first | refine V_cond rfl (fun hc => ?_) (fun hc => ?_) | refine V_seq (V_cond rfl (fun hc => ?_) (fun hc => ?_)))
    · cases hc
    refine V_skip ?_
    repeat (first | refine VO_d ?_ | refine VQ_d ?_ | (first | refine VO_q (Q_build TBd.h TZ.h rfl (by repeat constructor)) rfl ?_ | refine VQ_q (Q_build TBd.h TZ.h rfl (by repeat constructor)) rfl ?_ | (refine VO_bare rfl rfl rfl rfl ?_; refine VO_q (Q_build TBd.h TZ.h rfl (by repeat constructor)) rfl ?_) | refine VQ_run rfl rfl rfl rfl (Q_build TBd.h TZ.h rfl (by repeat constructor)) rfl ?_) | (first | refine VO_q (Q_ar rfl rfl rfl) rfl ?_ | refine VQ_q (Q_ar rfl rfl rfl) rfl ?_ | (refine VO_bare rfl rfl rfl rfl ?_; refine VO_q (Q_ar rfl rfl rfl) rfl ?_) | refine VQ_run rfl rfl rfl rfl (Q_ar rfl rfl rfl) rfl ?_) | (first | refine VO_nil ?_ | refine VQ_nil ?_) | (first | refine V_seq_region ?_ | refine V_seq (V_seq_region ?_) | refine V_seq_draw tmix (by kernel_rfl) ?_ | refine V_seq (V_seq_draw tmix (by kernel_rfl) ?_) | refine V_region ?_ | refine V_draw tmix (by kernel_rfl) ?_))
    refine V_adopt 3 1 0 6 rfl rfl (by repeat constructor) (by repeat constructor) (by repeat constructor) (by repeat constructor) ?_
    refine V_adopt 49 5 0 7 rfl rfl (by repeat constructor) (by repeat constructor) (by repeat constructor) (by repeat constructor) ?_
    refine V_adopt 52 9 0 8 rfl rfl (by repeat constructor) (by repeat constructor) (by repeat constructor) (by repeat constructor) ?_
    refine V_ret ?_
    exact ⟨trivial, _, (by repeat (first | exact rfl | exact ResV_ag rfl rfl TI.h rfl rfl | exact ResV_one rfl rfl TI.h rfl | constructor)), by decide⟩
  · show SpecO _ _ _ _ [vv 2 1]
    refine SpecO_intro Try.func42 rfl (by kernel_rfl) rfl (by simp) fun A => ?_
    repeat (first | refine VO_d ?_ | refine VQ_d ?_ | (first | refine VO_q (Q_build TBd.h TZ.h rfl (by repeat constructor)) rfl ?_ | refine VQ_q (Q_build TBd.h TZ.h rfl (by repeat constructor)) rfl ?_ | (refine VO_bare rfl rfl rfl rfl ?_; refine VO_q (Q_build TBd.h TZ.h rfl (by repeat constructor)) rfl ?_) | refine VQ_run rfl rfl rfl rfl (Q_build TBd.h TZ.h rfl (by repeat constructor)) rfl ?_) | (first | refine VO_q (Q_ar rfl rfl rfl) rfl ?_ | refine VQ_q (Q_ar rfl rfl rfl) rfl ?_ | (refine VO_bare rfl rfl rfl rfl ?_; refine VO_q (Q_ar rfl rfl rfl) rfl ?_) | refine VQ_run rfl rfl rfl rfl (Q_ar rfl rfl rfl) rfl ?_) | (first | refine VO_nil ?_ | refine VQ_nil ?_) | (first | refine V_seq_region ?_ | refine V_seq (V_seq_region ?_) | refine V_seq_draw tmix (by kernel_rfl) ?_ | refine V_seq (V_seq_draw tmix (by kernel_rfl) ?_) | refine V_region ?_ | refine V_draw tmix (by kernel_rfl) ?_))
    (first | refine V_cond rfl (fun hc => ?_) (fun hc => ?_) | refine V_seq (V_cond rfl (fun hc => ?_) (fun hc => ?_)))
    · repeat (first | refine VO_d ?_ | refine VQ_d ?_ | (first | refine VO_q (Q_build TBd.h TZ.h rfl (by repeat constructor)) rfl ?_ | refine VQ_q (Q_build TBd.h TZ.h rfl (by repeat constructor)) rfl ?_ | (refine VO_bare rfl rfl rfl rfl ?_; refine VO_q (Q_build TBd.h TZ.h rfl (by repeat constructor)) rfl ?_) | refine VQ_run rfl rfl rfl rfl (Q_build TBd.h TZ.h rfl (by repeat constructor)) rfl ?_) | (first | refine VO_q (Q_ar rfl rfl rfl) rfl ?_ | refine VQ_q (Q_ar rfl rfl rfl) rfl ?_ | (refine VO_bare rfl rfl rfl rfl ?_; refine VO_q (Q_ar rfl rfl rfl) rfl ?_) | refine VQ_run rfl rfl rfl rfl (Q_ar rfl rfl rfl) rfl ?_) | (first | refine VO_nil ?_ | refine VQ_nil ?_) | (first | refine V_seq_region ?_ | refine V_seq (V_seq_region ?_) | refine V_seq_draw tmix (by kernel_rfl) ?_ | refine V_seq (V_seq_draw tmix (by kernel_rfl) ?_) | refine V_region ?_ | refine V_draw tmix (by kernel_rfl) ?_))
      refine V_adopt 3 1 0 6 rfl rfl (by repeat constructor) (by repeat constructor) (by repeat constructor) (by repeat constructor) ?_
      refine V_adopt 49 5 0 7 rfl rfl (by repeat constructor) (by repeat constructor) (by repeat constructor) (by repeat constructor) ?_
      refine V_adopt 52 9 0 8 rfl rfl (by repeat constructor) (by repeat constructor) (by repeat constructor) (by repeat constructor) ?_
      refine V_ret ?_
      exact ⟨trivial, _, (by repeat (first | exact rfl | exact ResV_ag rfl rfl TI.h rfl rfl | exact ResV_one rfl rfl TI.h rfl | constructor)), by decide⟩
    · cases hc

set_option maxHeartbeats 8000000 in
theorem implEv {nm : List UInt8} {u1 u2 : U} (hn : nm.length ≤ big) (w1 : wt (.st 27) u1) (w2 : wt (.st 27) u2) : ∃ (k n : Int) (r : Bool), ∀ a1 b1 a2 b2 r1 r2, u1 = .st (.i .i64 a1 :: .i .i64 b1 :: r1) → u2 = .st (.i .i64 a2 :: .i .i64 b2 :: r2) → evP nm a1 b1 a2 b2 = ((k, n), r) ∧ SpecO Try.prog 18 [.d (.s nm), .d u1, .d u2] [3, 49, 52] [vv k n, .b r] := by
  rw [big_eq] at hn
  obtain ⟨x_0, x_1, x_2, x_3, x_4, rfl, w1_0, w1_1, w1_2, w1_3, w1_4⟩ := inv_Value w1
  obtain ⟨x_3_0, x_3_1, x_3_2, x_3_3, rfl, w1_3_0, w1_3_1, w1_3_2, w1_3_3⟩ := inv_Dictionary w1_3
  obtain ⟨x_3_1_0, x_3_1_1, rfl, w1_3_1_0, w1_3_1_1⟩ := inv_InstanceRef w1_3_1
  obtain ⟨y_0, y_1, y_2, y_3, y_4, rfl, w2_0, w2_1, w2_2, w2_3, w2_4⟩ := inv_Value w2
  obtain ⟨y_3_0, y_3_1, y_3_2, y_3_3, rfl, w2_3_0, w2_3_1, w2_3_2, w2_3_3⟩ := inv_Dictionary w2_3
  obtain ⟨y_3_1_0, y_3_1_1, rfl, w2_3_1_0, w2_3_1_1⟩ := inv_InstanceRef w2_3_1
  obtain ⟨⟨⟨k, n⟩, r⟩, hres⟩ : ∃ res, evP nm x_0 x_1 y_0 y_1 = res := ⟨_, rfl⟩
  refine ⟨k, n, r, ?_⟩
  rintro a1 b1 a2 b2 r1 r2 e1 e2
  cases e1; cases e2
  refine ⟨hres, ?_⟩
  refine SpecO_intro Try.func18 rfl (by kernel_rfl) rfl (by simp) fun A => ?_
  repeat (first | refine VO_d ?_ | refine VQ_d ?_ | (first | refine VO_q (Q_build TBd.h TZ.h rfl (by repeat constructor)) rfl ?_ | refine VQ_q (Q_build TBd.h TZ.h rfl (by repeat constructor)) rfl ?_ | (refine VO_bare rfl rfl rfl rfl ?_; refine VO_q (Q_build TBd.h TZ.h rfl (by repeat constructor)) rfl ?_) | refine VQ_run rfl rfl rfl rfl (Q_build TBd.h TZ.h rfl (by repeat constructor)) rfl ?_) | (first | refine VO_q (Q_ar rfl rfl rfl) rfl ?_ | refine VQ_q (Q_ar rfl rfl rfl) rfl ?_ | (refine VO_bare rfl rfl rfl rfl ?_; refine VO_q (Q_ar rfl rfl rfl) rfl ?_) | refine VQ_run rfl rfl rfl rfl (Q_ar rfl rfl rfl) rfl ?_) | (first | refine VO_nil ?_ | refine VQ_nil ?_) | (first | refine V_seq_region ?_ | refine V_seq (V_seq_region ?_) | refine V_seq_draw tmix (by kernel_rfl) ?_ | refine V_seq (V_seq_draw tmix (by kernel_rfl) ?_) | refine V_region ?_ | refine V_draw tmix (by kernel_rfl) ?_))
  cases h1 : (x_0 != 1)
  rotate_left
  · repeat (first | refine VO_d ?_ | refine VQ_d ?_ | (first | refine VO_q (Q_build TBd.h TZ.h rfl (by repeat constructor)) rfl ?_ | refine VQ_q (Q_build TBd.h TZ.h rfl (by repeat constructor)) rfl ?_ | (refine VO_bare rfl rfl rfl rfl ?_; refine VO_q (Q_build TBd.h TZ.h rfl (by repeat constructor)) rfl ?_) | refine VQ_run rfl rfl rfl rfl (Q_build TBd.h TZ.h rfl (by repeat constructor)) rfl ?_) | (first | refine VO_q (Q_ar rfl rfl rfl) rfl ?_ | refine VQ_q (Q_ar rfl rfl rfl) rfl ?_ | (refine VO_bare rfl rfl rfl rfl ?_; refine VO_q (Q_ar rfl rfl rfl) rfl ?_) | refine VQ_run rfl rfl rfl rfl (Q_ar rfl rfl rfl) rfl ?_) | (first | refine VO_nil ?_ | refine VQ_nil ?_) | (first | refine V_seq_region ?_ | refine V_seq (V_seq_region ?_) | refine V_seq_draw tmix (by kernel_rfl) ?_ | refine V_seq (V_seq_draw tmix (by kernel_rfl) ?_) | refine V_region ?_ | refine V_draw tmix (by kernel_rfl) ?_))
    (first | refine V_cond rfl (fun hc => ?_) (fun hc => ?_) | refine V_seq (V_cond rfl (fun hc => ?_) (fun hc => ?_)))
    · skip
      simp only [evP, h1, cond_true, cond_false, Prod.mk.injEq] at hres
      obtain ⟨⟨rfl, rfl⟩, rfl⟩ := hres
      repeat (first | refine VO_d ?_ | refine VQ_d ?_ | (first | refine VO_q (Q_build TBd.h TZ.h rfl (by repeat constructor)) rfl ?_ | refine VQ_q (Q_build TBd.h TZ.h rfl (by repeat constructor)) rfl ?_ | (refine VO_bare rfl rfl rfl rfl ?_; refine VO_q (Q_build TBd.h TZ.h rfl (by repeat constructor)) rfl ?_) | refine VQ_run rfl rfl rfl rfl (Q_build TBd.h TZ.h rfl (by repeat constructor)) rfl ?_) | (first | refine VO_q (Q_ar rfl rfl rfl) rfl ?_ | refine VQ_q (Q_ar rfl rfl rfl) rfl ?_ | (refine VO_bare rfl rfl rfl rfl ?_; refine VO_q (Q_ar rfl rfl rfl) rfl ?_) | refine VQ_run rfl rfl rfl rfl (Q_ar rfl rfl rfl) rfl ?_) | (first | refine VO_nil ?_ | refine VQ_nil ?_) | (first | refine V_seq_region ?_ | refine V_seq (V_seq_region ?_) | refine V_seq_draw tmix (by kernel_rfl) ?_ | refine V_seq (V_seq_draw tmix (by kernel_rfl) ?_) | refine V_region ?_ | refine V_draw tmix (by kernel_rfl) ?_))
      refine V_adopt 3 1 2 6 rfl rfl (by repeat constructor) (by repeat constructor) (by repeat constructor) (by repeat constructor) ?_
      refine V_adopt 49 5 2 7 rfl rfl (by repeat constructor) (by repeat constructor) (by repeat constructor) (by repeat constructor) ?_
      refine V_adopt 52 9 2 8 rfl rfl (by repeat constructor) (by repeat constructor) (by repeat constructor) (by repeat constructor) ?_
      refine V_ret ?_
      exact ⟨trivial, _, (by repeat (first | exact rfl | exact ResV_ag rfl rfl TI.h rfl rfl | exact ResV_one rfl rfl TI.h rfl | constructor)), by decide⟩
    · cases hc
  repeat (first | refine VO_d ?_ | refine VQ_d ?_ | (first | refine VO_q (Q_build TBd.h TZ.h rfl (by repeat constructor)) rfl ?_ | refine VQ_q (Q_build TBd.h TZ.h rfl (by repeat constructor)) rfl ?_ | (refine VO_bare rfl rfl rfl rfl ?_; refine VO_q (Q_build TBd.h TZ.h rfl (by repeat constructor)) rfl ?_) | refine VQ_run rfl rfl rfl rfl (Q_build TBd.h TZ.h rfl (by repeat constructor)) rfl ?_) | (first | refine VO_q (Q_ar rfl rfl rfl) rfl ?_ | refine VQ_q (Q_ar rfl rfl rfl) rfl ?_ | (refine VO_bare rfl rfl rfl rfl ?_; refine VO_q (Q_ar rfl rfl rfl) rfl ?_) | refine VQ_run rfl rfl rfl rfl (Q_ar rfl rfl rfl) rfl ?_) | (first | refine VO_nil ?_ | refine VQ_nil ?_) | (first | refine V_seq_region ?_ | refine V_seq (V_seq_region ?_) | refine V_seq_draw tmix (by kernel_rfl) ?_ | refine V_seq (V_seq_draw tmix (by kernel_rfl) ?_) | refine V_region ?_ | refine V_draw tmix (by kernel_rfl) ?_))
  (first | refine V_cond rfl (fun h2 => ?_) (fun h2 => ?_) | refine V_seq (V_cond rfl (fun h2 => ?_) (fun h2 => ?_)))
  · skip
    simp only [evP, h1, h2, cond_true, cond_false, Prod.mk.injEq] at hres
    obtain ⟨⟨rfl, rfl⟩, rfl⟩ := hres
    repeat (first | refine VO_d ?_ | refine VQ_d ?_ | (first | refine VO_q (Q_build TBd.h TZ.h rfl (by repeat constructor)) rfl ?_ | refine VQ_q (Q_build TBd.h TZ.h rfl (by repeat constructor)) rfl ?_ | (refine VO_bare rfl rfl rfl rfl ?_; refine VO_q (Q_build TBd.h TZ.h rfl (by repeat constructor)) rfl ?_) | refine VQ_run rfl rfl rfl rfl (Q_build TBd.h TZ.h rfl (by repeat constructor)) rfl ?_) | (first | refine VO_q (Q_ar rfl rfl rfl) rfl ?_ | refine VQ_q (Q_ar rfl rfl rfl) rfl ?_ | (refine VO_bare rfl rfl rfl rfl ?_; refine VO_q (Q_ar rfl rfl rfl) rfl ?_) | refine VQ_run rfl rfl rfl rfl (Q_ar rfl rfl rfl) rfl ?_) | (first | refine VO_nil ?_ | refine VQ_nil ?_) | (first | refine V_seq_region ?_ | refine V_seq (V_seq_region ?_) | refine V_seq_draw tmix (by kernel_rfl) ?_ | refine V_seq (V_seq_draw tmix (by kernel_rfl) ?_) | refine V_region ?_ | refine V_draw tmix (by kernel_rfl) ?_))
    refine V_adopt 3 1 2 6 rfl rfl (by repeat constructor) (by repeat constructor) (by repeat constructor) (by repeat constructor) ?_
    refine V_adopt 49 5 2 7 rfl rfl (by repeat constructor) (by repeat constructor) (by repeat constructor) (by repeat constructor) ?_
    refine V_adopt 52 9 2 8 rfl rfl (by repeat constructor) (by repeat constructor) (by repeat constructor) (by repeat constructor) ?_
    refine V_ret ?_
    exact ⟨trivial, _, (by repeat (first | exact rfl | exact ResV_ag rfl rfl TI.h rfl rfl | exact ResV_one rfl rfl TI.h rfl | constructor)), by decide⟩
  refine V_skip ?_
  repeat (first | refine VO_d ?_ | refine VQ_d ?_ | (first | refine VO_q (Q_build TBd.h TZ.h rfl (by repeat constructor)) rfl ?_ | refine VQ_q (Q_build TBd.h TZ.h rfl (by repeat constructor)) rfl ?_ | (refine VO_bare rfl rfl rfl rfl ?_; refine VO_q (Q_build TBd.h TZ.h rfl (by repeat constructor)) rfl ?_) | refine VQ_run rfl rfl rfl rfl (Q_build TBd.h TZ.h rfl (by repeat constructor)) rfl ?_) | (first | refine VO_q (Q_ar rfl rfl rfl) rfl ?_ | refine VQ_q (Q_ar rfl rfl rfl) rfl ?_ | (refine VO_bare rfl rfl rfl rfl ?_; refine VO_q (Q_ar rfl rfl rfl) rfl ?_) | refine VQ_run rfl rfl rfl rfl (Q_ar rfl rfl rfl) rfl ?_) | (first | refine VO_nil ?_ | refine VQ_nil ?_) | (first | refine V_seq_region ?_ | refine V_seq (V_seq_region ?_) | refine V_seq_draw tmix (by kernel_rfl) ?_ | refine V_seq (V_seq_draw tmix (by kernel_rfl) ?_) | refine V_region ?_ | refine V_draw tmix (by kernel_rfl) ?_))
  refine V_block ?_
  repeat (first | refine VO_d ?_ | refine VQ_d ?_ | (first | refine VO_q (Q_build TBd.h TZ.h rfl (by repeat constructor)) rfl ?_ | refine VQ_q (Q_build TBd.h TZ.h rfl (by repeat constructor)) rfl ?_ | (refine VO_bare rfl rfl rfl rfl ?_; refine VO_q (Q_build TBd.h TZ.h rfl (by repeat constructor)) rfl ?_) | refine VQ_run rfl rfl rfl rfl (Q_build TBd.h TZ.h rfl (by repeat constructor)) rfl ?_) | (first | refine VO_q (Q_ar rfl rfl rfl) rfl ?_ | refine VQ_q (Q_ar rfl rfl rfl) rfl ?_ | (refine VO_bare rfl rfl rfl rfl ?_; refine VO_q (Q_ar rfl rfl rfl) rfl ?_) | refine VQ_run rfl rfl rfl rfl (Q_ar rfl rfl rfl) rfl ?_) | (first | refine VO_nil ?_ | refine VQ_nil ?_) | (first | refine V_seq_region ?_ | refine V_seq (V_seq_region ?_) | refine V_seq_draw tmix (by kernel_rfl) ?_ | refine V_seq (V_seq_draw tmix (by kernel_rfl) ?_) | refine V_region ?_ | refine V_draw tmix (by kernel_rfl) ?_))
  (first | refine V_cond rfl (fun h3 => ?_) (fun h3 => ?_) | refine V_seq (V_cond rfl (fun h3 => ?_) (fun h3 => ?_)))
  · replace h3 : (nm == [43]) = true := h3
    simp only [evP, h1, h2, h3, cond_true, cond_false, Prod.mk.injEq] at hres
    obtain ⟨⟨rfl, rfl⟩, rfl⟩ := hres
    repeat (first | refine VO_d ?_ | refine VQ_d ?_ | (first | refine VO_q (Q_build TBd.h TZ.h rfl (by repeat constructor)) rfl ?_ | refine VQ_q (Q_build TBd.h TZ.h rfl (by repeat constructor)) rfl ?_ | (refine VO_bare rfl rfl rfl rfl ?_; refine VO_q (Q_build TBd.h TZ.h rfl (by repeat constructor)) rfl ?_) | refine VQ_run rfl rfl rfl rfl (Q_build TBd.h TZ.h rfl (by repeat constructor)) rfl ?_) | (first | refine VO_q (Q_ar rfl rfl rfl) rfl ?_ | refine VQ_q (Q_ar rfl rfl rfl) rfl ?_ | (refine VO_bare rfl rfl rfl rfl ?_; refine VO_q (Q_ar rfl rfl rfl) rfl ?_) | refine VQ_run rfl rfl rfl rfl (Q_ar rfl rfl rfl) rfl ?_) | (first | refine VO_nil ?_ | refine VQ_nil ?_) | (first | refine V_seq_region ?_ | refine V_seq (V_seq_region ?_) | refine V_seq_draw tmix (by kernel_rfl) ?_ | refine V_seq (V_seq_draw tmix (by kernel_rfl) ?_) | refine V_region ?_ | refine V_draw tmix (by kernel_rfl) ?_))
    refine V_adopt 3 1 2 6 rfl rfl (by repeat constructor) (by repeat constructor) (by repeat constructor) (by repeat constructor) ?_
    refine V_adopt 49 5 2 7 rfl rfl (by repeat constructor) (by repeat constructor) (by repeat constructor) (by repeat constructor) ?_
    refine V_adopt 52 9 2 8 rfl rfl (by repeat constructor) (by repeat constructor) (by repeat constructor) (by repeat constructor) ?_
    refine V_ret ?_
    exact ⟨trivial, _, (by repeat (first | exact rfl | exact ResV_ag rfl rfl TI.h rfl rfl | exact ResV_one rfl rfl TI.h rfl | constructor)), by decide⟩
  replace h3 : (nm == [43]) = false := h3
  repeat (first | refine VO_d ?_ | refine VQ_d ?_ | (first | refine VO_q (Q_build TBd.h TZ.h rfl (by repeat constructor)) rfl ?_ | refine VQ_q (Q_build TBd.h TZ.h rfl (by repeat constructor)) rfl ?_ | (refine VO_bare rfl rfl rfl rfl ?_; refine VO_q (Q_build TBd.h TZ.h rfl (by repeat constructor)) rfl ?_) | refine VQ_run rfl rfl rfl rfl (Q_build TBd.h TZ.h rfl (by repeat constructor)) rfl ?_) | (first | refine VO_q (Q_ar rfl rfl rfl) rfl ?_ | refine VQ_q (Q_ar rfl rfl rfl) rfl ?_ | (refine VO_bare rfl rfl rfl rfl ?_; refine VO_q (Q_ar rfl rfl rfl) rfl ?_) | refine VQ_run rfl rfl rfl rfl (Q_ar rfl rfl rfl) rfl ?_) | (first | refine VO_nil ?_ | refine VQ_nil ?_) | (first | refine V_seq_region ?_ | refine V_seq (V_seq_region ?_) | refine V_seq_draw tmix (by kernel_rfl) ?_ | refine V_seq (V_seq_draw tmix (by kernel_rfl) ?_) | refine V_region ?_ | refine V_draw tmix (by kernel_rfl) ?_))
  (first | refine V_cond rfl (fun h4 => ?_) (fun h4 => ?_) | refine V_seq (V_cond rfl (fun h4 => ?_) (fun h4 => ?_)))
  · replace h4 : (nm == [45]) = true := h4
    simp only [evP, h1, h2, h3, h4, cond_true, cond_false, Prod.mk.injEq] at hres
    obtain ⟨⟨rfl, rfl⟩, rfl⟩ := hres
    repeat (first | refine VO_d ?_ | refine VQ_d ?_ | (first | refine VO_q (Q_build TBd.h TZ.h rfl (by repeat constructor)) rfl ?_ | refine VQ_q (Q_build TBd.h TZ.h rfl (by repeat constructor)) rfl ?_ | (refine VO_bare rfl rfl rfl rfl ?_; refine VO_q (Q_build TBd.h TZ.h rfl (by repeat constructor)) rfl ?_) | refine VQ_run rfl rfl rfl rfl (Q_build TBd.h TZ.h rfl (by repeat constructor)) rfl ?_) | (first | refine VO_q (Q_ar rfl rfl rfl) rfl ?_ | refine VQ_q (Q_ar rfl rfl rfl) rfl ?_ | (refine VO_bare rfl rfl rfl rfl ?_; refine VO_q (Q_ar rfl rfl rfl) rfl ?_) | refine VQ_run rfl rfl rfl rfl (Q_ar rfl rfl rfl) rfl ?_) | (first | refine VO_nil ?_ | refine VQ_nil ?_) | (first | refine V_seq_region ?_ | refine V_seq (V_seq_region ?_) | refine V_seq_draw tmix (by kernel_rfl) ?_ | refine V_seq (V_seq_draw tmix (by kernel_rfl) ?_) | refine V_region ?_ | refine V_draw tmix (by kernel_rfl) ?_))
    refine V_adopt 3 1 2 6 rfl rfl (by repeat constructor) (by repeat constructor) (by repeat constructor) (by repeat constructor) ?_
    refine V_adopt 49 5 2 7 rfl rfl (by repeat constructor) (by repeat constructor) (by repeat constructor) (by repeat constructor) ?_
    refine V_adopt 52 9 2 8 rfl rfl (by repeat constructor) (by repeat constructor) (by repeat constructor) (by repeat constructor) ?_
    refine V_ret ?_
    exact ⟨trivial, _, (by repeat (first | exact rfl | exact ResV_ag rfl rfl TI.h rfl rfl | exact ResV_one rfl rfl TI.h rfl | constructor)), by decide⟩
  replace h4 : (nm == [45]) = false := h4
  repeat (first | refine VO_d ?_ | refine VQ_d ?_ | (first | refine VO_q (Q_build TBd.h TZ.h rfl (by repeat constructor)) rfl ?_ | refine VQ_q (Q_build TBd.h TZ.h rfl (by repeat constructor)) rfl ?_ | (refine VO_bare rfl rfl rfl rfl ?_; refine VO_q (Q_build TBd.h TZ.h rfl (by repeat constructor)) rfl ?_) | refine VQ_run rfl rfl rfl rfl (Q_build TBd.h TZ.h rfl (by repeat constructor)) rfl ?_) | (first | refine VO_q (Q_ar rfl rfl rfl) rfl ?_ | refine VQ_q (Q_ar rfl rfl rfl) rfl ?_ | (refine VO_bare rfl rfl rfl rfl ?_; refine VO_q (Q_ar rfl rfl rfl) rfl ?_) | refine VQ_run rfl rfl rfl rfl (Q_ar rfl rfl rfl) rfl ?_) | (first | refine VO_nil ?_ | refine VQ_nil ?_) | (first | refine V_seq_region ?_ | refine V_seq (V_seq_region ?_) | refine V_seq_draw tmix (by kernel_rfl) ?_ | refine V_seq (V_seq_draw tmix (by kernel_rfl) ?_) | refine V_region ?_ | refine V_draw tmix (by kernel_rfl) ?_))
  (first | refine V_cond rfl (fun h5 => ?_) (fun h5 => ?_) | refine V_seq (V_cond rfl (fun h5 => ?_) (fun h5 => ?_)))
  · replace h5 : (nm == [42]) = true := h5
    simp only [evP, h1, h2, h3, h4, h5, cond_true, cond_false, Prod.mk.injEq] at hres
    obtain ⟨⟨rfl, rfl⟩, rfl⟩ := hres
    repeat (first | refine VO_d ?_ | refine VQ_d ?_ | (first | refine VO_q (Q_build TBd.h TZ.h rfl (by repeat constructor)) rfl ?_ | refine VQ_q (Q_build TBd.h TZ.h rfl (by repeat constructor)) rfl ?_ | (refine VO_bare rfl rfl rfl rfl ?_; refine VO_q (Q_build TBd.h TZ.h rfl (by repeat constructor)) rfl ?_) | refine VQ_run rfl rfl rfl rfl (Q_build TBd.h TZ.h rfl (by repeat constructor)) rfl ?_) | (first | refine VO_q (Q_ar rfl rfl rfl) rfl ?_ | refine VQ_q (Q_ar rfl rfl rfl) rfl ?_ | (refine VO_bare rfl rfl rfl rfl ?_; refine VO_q (Q_ar rfl rfl rfl) rfl ?_) | refine VQ_run rfl rfl rfl rfl (Q_ar rfl rfl rfl) rfl ?_) | (first | refine VO_nil ?_ | refine VQ_nil ?_) | (first | refine V_seq_region ?_ | refine V_seq (V_seq_region ?_) | refine V_seq_draw tmix (by kernel_rfl) ?_ | refine V_seq (V_seq_draw tmix (by kernel_rfl) ?_) | refine V_region ?_ | refine V_draw tmix (by kernel_rfl) ?_))
    refine V_adopt 3 1 2 6 rfl rfl (by repeat constructor) (by repeat constructor) (by repeat constructor) (by repeat constructor) ?_
    refine V_adopt 49 5 2 7 rfl rfl (by repeat constructor) (by repeat constructor) (by repeat constructor) (by repeat constructor) ?_
    refine V_adopt 52 9 2 8 rfl rfl (by repeat constructor) (by repeat constructor) (by repeat constructor) (by repeat constructor) ?_
    refine V_ret ?_
    exact ⟨trivial, _, (by repeat (first | exact rfl | exact ResV_ag rfl rfl TI.h rfl rfl | exact ResV_one rfl rfl TI.h rfl | constructor)), by decide⟩
  replace h5 : (nm == [42]) = false := h5
  repeat (first | refine VO_d ?_ | refine VQ_d ?_ | (first | refine VO_q (Q_build TBd.h TZ.h rfl (by repeat constructor)) rfl ?_ | refine VQ_q (Q_build TBd.h TZ.h rfl (by repeat constructor)) rfl ?_ | (refine VO_bare rfl rfl rfl rfl ?_; refine VO_q (Q_build TBd.h TZ.h rfl (by repeat constructor)) rfl ?_) | refine VQ_run rfl rfl rfl rfl (Q_build TBd.h TZ.h rfl (by repeat constructor)) rfl ?_) | (first | refine VO_q (Q_ar rfl rfl rfl) rfl ?_ | refine VQ_q (Q_ar rfl rfl rfl) rfl ?_ | (refine VO_bare rfl rfl rfl rfl ?_; refine VO_q (Q_ar rfl rfl rfl) rfl ?_) | refine VQ_run rfl rfl rfl rfl (Q_ar rfl rfl rfl) rfl ?_) | (first | refine VO_nil ?_ | refine VQ_nil ?_) | (first | refine V_seq_region ?_ | refine V_seq (V_seq_region ?_) | refine V_seq_draw tmix (by kernel_rfl) ?_ | refine V_seq (V_seq_draw tmix (by kernel_rfl) ?_) | refine V_region ?_ | refine V_draw tmix (by kernel_rfl) ?_))
  (first | refine V_cond rfl (fun h6 => ?_) (fun h6 => ?_) | refine V_seq (V_cond rfl (fun h6 => ?_) (fun h6 => ?_)))
  · replace h6 : (nm == [60]) = true := h6
    simp only [evP, h1, h2, h3, h4, h5, h6, cond_true, cond_false, Prod.mk.injEq] at hres
    obtain ⟨⟨rfl, rfl⟩, rfl⟩ := hres
    repeat (first | refine VO_d ?_ | refine VQ_d ?_ | (first | refine VO_q (Q_build TBd.h TZ.h rfl (by repeat constructor)) rfl ?_ | refine VQ_q (Q_build TBd.h TZ.h rfl (by repeat constructor)) rfl ?_ | (refine VO_bare rfl rfl rfl rfl ?_; refine VO_q (Q_build TBd.h TZ.h rfl (by repeat constructor)) rfl ?_) | refine VQ_run rfl rfl rfl rfl (Q_build TBd.h TZ.h rfl (by repeat constructor)) rfl ?_) | (first | refine VO_q (Q_ar rfl rfl rfl) rfl ?_ | refine VQ_q (Q_ar rfl rfl rfl) rfl ?_ | (refine VO_bare rfl rfl rfl rfl ?_; refine VO_q (Q_ar rfl rfl rfl) rfl ?_) | refine VQ_run rfl rfl rfl rfl (Q_ar rfl rfl rfl) rfl ?_) | (first | refine VO_nil ?_ | refine VQ_nil ?_) | (first | refine V_seq_region ?_ | refine V_seq (V_seq_region ?_) | refine V_seq_draw tmix (by kernel_rfl) ?_ | refine V_seq (V_seq_draw tmix (by kernel_rfl) ?_) | refine V_region ?_ | refine V_draw tmix (by kernel_rfl) ?_))
    refine VO_callO rfl (implTruth _) (by (repeat (first | exact trivial | exact rfl | exact ⟨_, rfl⟩ | refine And.intro ?_ ?_)); first | done | fail) (by repeat constructor) (by repeat constructor) (by repeat constructor) rfl ?_
    repeat (first | refine VO_d ?_ | refine VQ_d ?_ | (first | refine VO_q (Q_build TBd.h TZ.h rfl (by repeat constructor)) rfl ?_ | refine VQ_q (Q_build TBd.h TZ.h rfl (by repeat constructor)) rfl ?_ | (refine VO_bare rfl rfl rfl rfl ?_; refine VO_q (Q_build TBd.h TZ.h rfl (by repeat constructor)) rfl ?_) | refine VQ_run rfl rfl rfl rfl (Q_build TBd.h TZ.h rfl (by repeat constructor)) rfl ?_) | (first | refine VO_q (Q_ar rfl rfl rfl) rfl ?_ | refine VQ_q (Q_ar rfl rfl rfl) rfl ?_ | (refine VO_bare rfl rfl rfl rfl ?_; refine VO_q (Q_ar rfl rfl rfl) rfl ?_) | refine VQ_run rfl rfl rfl rfl (Q_ar rfl rfl rfl) rfl ?_) | (first | refine VO_nil ?_ | refine VQ_nil ?_) | (first | refine V_seq_region ?_ | refine V_seq (V_seq_region ?_) | refine V_seq_draw tmix (by kernel_rfl) ?_ | refine V_seq (V_seq_draw tmix (by kernel_rfl) ?_) | refine V_region ?_ | refine V_draw tmix (by kernel_rfl) ?_))
    refine V_ret ?_
    exact ⟨trivial, _, (by repeat (first | exact rfl | exact ResV_ag rfl rfl TI.h rfl rfl | exact ResV_one rfl rfl TI.h rfl | constructor)), by decide⟩
  replace h6 : (nm == [60]) = false := h6
  repeat (first | refine VO_d ?_ | refine VQ_d ?_ | (first | refine VO_q (Q_build TBd.h TZ.h rfl (by repeat constructor)) rfl ?_ | refine VQ_q (Q_build TBd.h TZ.h rfl (by repeat constructor)) rfl ?_ | (refine VO_bare rfl rfl rfl rfl ?_; refine VO_q (Q_build TBd.h TZ.h rfl (by repeat constructor)) rfl ?_) | refine VQ_run rfl rfl rfl rfl (Q_build TBd.h TZ.h rfl (by repeat constructor)) rfl ?_) | (first | refine VO_q (Q_ar rfl rfl rfl) rfl ?_ | refine VQ_q (Q_ar rfl rfl rfl) rfl ?_ | (refine VO_bare rfl rfl rfl rfl ?_; refine VO_q (Q_ar rfl rfl rfl) rfl ?_) | refine VQ_run rfl rfl rfl rfl (Q_ar rfl rfl rfl) rfl ?_) | (first | refine VO_nil ?_ | refine VQ_nil ?_) | (first | refine V_seq_region ?_ | refine V_seq (V_seq_region ?_) | refine V_seq_draw tmix (by kernel_rfl) ?_ | refine V_seq (V_seq_draw tmix (by kernel_rfl) ?_) | refine V_region ?_ | refine V_draw tmix (by kernel_rfl) ?_))
  (first | refine V_cond rfl (fun h7 => ?_) (fun h7 => ?_) | refine V_seq (V_cond rfl (fun h7 => ?_) (fun h7 => ?_)))
  · replace h7 : (nm == [61]) = true := h7
    simp only [evP, h1, h2, h3, h4, h5, h6, h7, cond_true, cond_false, Prod.mk.injEq] at hres
    obtain ⟨⟨rfl, rfl⟩, rfl⟩ := hres
    repeat (first | refine VO_d ?_ | refine VQ_d ?_ | (first | refine VO_q (Q_build TBd.h TZ.h rfl (by repeat constructor)) rfl ?_ | refine VQ_q (Q_build TBd.h TZ.h rfl (by repeat constructor)) rfl ?_ | (refine VO_bare rfl rfl rfl rfl ?_; refine VO_q (Q_build TBd.h TZ.h rfl (by repeat constructor)) rfl ?_) | refine VQ_run rfl rfl rfl rfl (Q_build TBd.h TZ.h rfl (by repeat constructor)) rfl ?_) | (first | refine VO_q (Q_ar rfl rfl rfl) rfl ?_ | refine VQ_q (Q_ar rfl rfl rfl) rfl ?_ | (refine VO_bare rfl rfl rfl rfl ?_; refine VO_q (Q_ar rfl rfl rfl) rfl ?_) | refine VQ_run rfl rfl rfl rfl (Q_ar rfl rfl rfl) rfl ?_) | (first | refine VO_nil ?_ | refine VQ_nil ?_) | (first | refine V_seq_region ?_ | refine V_seq (V_seq_region ?_) | refine V_seq_draw tmix (by kernel_rfl) ?_ | refine V_seq (V_seq_draw tmix (by kernel_rfl) ?_) | refine V_region ?_ | refine V_draw tmix (by kernel_rfl) ?_))
    refine VO_callO rfl (implTruth _) (by (repeat (first | exact trivial | exact rfl | exact ⟨_, rfl⟩ | refine And.intro ?_ ?_)); first | done | fail) (by repeat constructor) (by repeat constructor) (by repeat constructor) rfl ?_
    repeat (first | refine VO_d ?_ | refine VQ_d ?_ | (first | refine VO_q (Q_build TBd.h TZ.h rfl (by repeat constructor)) rfl ?_ | refine VQ_q (Q_build TBd.h TZ.h rfl (by repeat constructor)) rfl ?_ | (refine VO_bare rfl rfl rfl rfl ?_; refine VO_q (Q_build TBd.h TZ.h rfl (by repeat constructor)) rfl ?_) | refine VQ_run rfl rfl rfl rfl (Q_build TBd.h TZ.h rfl (by repeat constructor)) rfl ?_) | (first | refine VO_q (Q_ar rfl rfl rfl) rfl ?_ | refine VQ_q (Q_ar rfl rfl rfl) rfl ?_ | (refine VO_bare rfl rfl rfl rfl ?_; refine VO_q (Q_ar rfl rfl rfl) rfl ?_) | refine VQ_run rfl rfl rfl rfl (Q_ar rfl rfl rfl) rfl ?_) | (first | refine VO_nil ?_ | refine VQ_nil ?_) | (first | refine V_seq_region ?_ | refine V_seq (V_seq_region ?_) | refine V_seq_draw tmix (by kernel_rfl) ?_ | refine V_seq (V_seq_draw tmix (by kernel_rfl) ?_) | refine V_region ?_ | refine V_draw tmix (by kernel_rfl) ?_))
    refine V_ret ?_
    exact ⟨trivial, _, (by repeat (first | exact rfl | exact ResV_ag rfl rfl TI.h rfl rfl | exact ResV_one rfl rfl TI.h rfl | constructor)), by decide⟩
  replace h7 : (nm == [61]) = false := h7
  refine V_skip ?_
  simp only [evP, h1, h2, h3, h4, h5, h6, h7, cond_true, cond_false, Prod.mk.injEq] at hres
  obtain ⟨⟨rfl, rfl⟩, rfl⟩ := hres
  show V _ _ _ _ _
  repeat (first | refine VO_d ?_ | refine VQ_d ?_ | (first | refine VO_q (Q_build TBd.h TZ.h rfl (by repeat constructor)) rfl ?_ | refine VQ_q (Q_build TBd.h TZ.h rfl (by repeat constructor)) rfl ?_ | (refine VO_bare rfl rfl rfl rfl ?_; refine VO_q (Q_build TBd.h TZ.h rfl (by repeat constructor)) rfl ?_) | refine VQ_run rfl rfl rfl rfl (Q_build TBd.h TZ.h rfl (by repeat constructor)) rfl ?_) | (first | refine VO_q (Q_ar rfl rfl rfl) rfl ?_ | refine VQ_q (Q_ar rfl rfl rfl) rfl ?_ | (refine VO_bare rfl rfl rfl rfl ?_; refine VO_q (Q_ar rfl rfl rfl) rfl ?_) | refine VQ_run rfl rfl rfl rfl (Q_ar rfl rfl rfl) rfl ?_) | (first | refine VO_nil ?_ | refine VQ_nil ?_) | (first | refine V_seq_region ?_ | refine V_seq (V_seq_region ?_) | refine V_seq_draw tmix (by kernel_rfl) ?_ | refine V_seq (V_seq_draw tmix (by kernel_rfl) ?_) | refine V_region ?_ | refine V_draw tmix (by kernel_rfl) ?_))
  refine V_adopt 3 1 2 6 rfl rfl (by repeat constructor) (by repeat constructor) (by repeat constructor) (by repeat constructor) ?_
  refine V_adopt 49 5 2 7 rfl rfl (by repeat constructor) (by repeat constructor) (by repeat constructor) (by repeat constructor) ?_
  refine V_adopt 52 9 2 8 rfl rfl (by repeat constructor) (by repeat constructor) (by repeat constructor) (by repeat constructor) ?_
  refine V_ret ?_
  exact ⟨trivial, _, (by repeat (first | exact rfl | exact ResV_ag rfl rfl TI.h rfl rfl | exact ResV_one rfl rfl TI.h rfl | constructor)), by decide⟩

set_option maxHeartbeats 8000000 in
theorem specEv {nm : List UInt8} {u1 u2 : U} (hn : nm.length ≤ big) (w1 : wt (.st 27) u1) (w2 : wt (.st 27) u2) : ∃ (k n : Int) (r : Bool), ∀ a1 b1 a2 b2 r1 r2, u1 = .st (.i .i64 a1 :: .i .i64 b1 :: r1) → u2 = .st (.i .i64 a2 :: .i .i64 b2 :: r2) → evP nm a1 b1 a2 b2 = ((k, n), r) ∧ SpecO Try.prog 16 [.d (.s nm), .d u1, .d u2] [3, 49, 52] [vv k n, .b r] := by
  rw [big_eq] at hn
  obtain ⟨x_0, x_1, x_2, x_3, x_4, rfl, w1_0, w1_1, w1_2, w1_3, w1_4⟩ := inv_Value w1
  obtain ⟨x_3_0, x_3_1, x_3_2, x_3_3, rfl, w1_3_0, w1_3_1, w1_3_2, w1_3_3⟩ := inv_Dictionary w1_3
  obtain ⟨x_3_1_0, x_3_1_1, rfl, w1_3_1_0, w1_3_1_1⟩ := inv_InstanceRef w1_3_1
  obtain ⟨y_0, y_1, y_2, y_3, y_4, rfl, w2_0, w2_1, w2_2, w2_3, w2_4⟩ := inv_Value w2
  obtain ⟨y_3_0, y_3_1, y_3_2, y_3_3, rfl, w2_3_0, w2_3_1, w2_3_2, w2_3_3⟩ := inv_Dictionary w2_3
  obtain ⟨y_3_1_0, y_3_1_1, rfl, w2_3_1_0, w2_3_1_1⟩ := inv_InstanceRef w2_3_1
  obtain ⟨⟨⟨k, n⟩, r⟩, hres⟩ : ∃ res, evP nm x_0 x_1 y_0 y_1 = res := ⟨_, rfl⟩
  refine ⟨k, n, r, ?_⟩
  rintro a1 b1 a2 b2 r1 r2 e1 e2
  cases e1; cases e2
  refine ⟨hres, ?_⟩
  refine SpecO_intro Try.func16 rfl (by kernel_rfl) rfl (by simp) fun A => ?_
  repeat (first | refine VO_d ?_ | refine VQ_d ?_ | (first | refine VO_q (Q_build TBd.h TZ.h rfl (by repeat constructor)) rfl ?_ | refine VQ_q (Q_build TBd.h TZ.h rfl (by repeat constructor)) rfl ?_ | (refine VO_bare rfl rfl rfl rfl ?_; refine VO_q (Q_build TBd.h TZ.h rfl (by repeat constructor)) rfl ?_) | refine VQ_run rfl rfl rfl rfl (Q_build TBd.h TZ.h rfl (by repeat constructor)) rfl ?_) | (first | refine VO_q (Q_ar rfl rfl rfl) rfl ?_ | refine VQ_q (Q_ar rfl rfl rfl) rfl ?_ | (refine VO_bare rfl rfl rfl rfl ?_; refine VO_q (Q_ar rfl rfl rfl) rfl ?_) | refine VQ_run rfl rfl rfl rfl (Q_ar rfl rfl rfl) rfl ?_) | (first | refine VO_nil ?_ | refine VQ_nil ?_) | (first | refine V_seq_region ?_ | refine V_seq (V_seq_region ?_) | refine V_seq_draw tmix (by kernel_rfl) ?_ | refine V_seq (V_seq_draw tmix (by kernel_rfl) ?_) | refine V_region ?_ | refine V_draw tmix (by kernel_rfl) ?_))
  cases h1 : (x_0 != 1)
  rotate_left
  · repeat (first | refine VO_d ?_ | refine VQ_d ?_ | (first | refine VO_q (Q_build TBd.h TZ.h rfl (by repeat constructor)) rfl ?_ | refine VQ_q (Q_build TBd.h TZ.h rfl (by repeat constructor)) rfl ?_ | (refine VO_bare rfl rfl rfl rfl ?_; refine VO_q (Q_build TBd.h TZ.h rfl (by repeat constructor)) rfl ?_) | refine VQ_run rfl rfl rfl rfl (Q_build TBd.h TZ.h rfl (by repeat constructor)) rfl ?_) | (first | refine VO_q (Q_ar rfl rfl rfl) rfl ?_ | refine VQ_q (Q_ar rfl rfl rfl) rfl ?_ | (refine VO_bare rfl rfl rfl rfl ?_; refine VO_q (Q_ar rfl rfl rfl) rfl ?_) | refine VQ_run rfl rfl rfl rfl (Q_ar rfl rfl rfl) rfl ?_) | (first | refine VO_nil ?_ | refine VQ_nil ?_) | (first | refine V_seq_region ?_ | refine V_seq (V_seq_region ?_) | refine V_seq_draw tmix (by kernel_rfl) ?_ | refine V_seq (V_seq_draw tmix (by kernel_rfl) ?_) | refine V_region ?_ | refine V_draw tmix (by kernel_rfl) ?_))
    (first | refine V_cond rfl (fun hc => ?_) (fun hc => ?_) | refine V_seq (V_cond rfl (fun hc => ?_) (fun hc => ?_)))
    · skip
      simp only [evP, h1, cond_true, cond_false, Prod.mk.injEq] at hres
      obtain ⟨⟨rfl, rfl⟩, rfl⟩ := hres
      repeat (first | refine VO_d ?_ | refine VQ_d ?_ | (first | refine VO_q (Q_build TBd.h TZ.h rfl (by repeat constructor)) rfl ?_ | refine VQ_q (Q_build TBd.h TZ.h rfl (by repeat constructor)) rfl ?_ | (refine VO_bare rfl rfl rfl rfl ?_; refine VO_q (Q_build TBd.h TZ.h rfl (by repeat constructor)) rfl ?_) | refine VQ_run rfl rfl rfl rfl (Q_build TBd.h TZ.h rfl (by repeat constructor)) rfl ?_) | (first | refine VO_q (Q_ar rfl rfl rfl) rfl ?_ | refine VQ_q (Q_ar rfl rfl rfl) rfl ?_ | (refine VO_bare rfl rfl rfl rfl ?_; refine VO_q (Q_ar rfl rfl rfl) rfl ?_) | refine VQ_run rfl rfl rfl rfl (Q_ar rfl rfl rfl) rfl ?_) | (first | refine VO_nil ?_ | refine VQ_nil ?_) | (first | refine V_seq_region ?_ | refine V_seq (V_seq_region ?_) | refine V_seq_draw tmix (by kernel_rfl) ?_ | refine V_seq (V_seq_draw tmix (by kernel_rfl) ?_) | refine V_region ?_ | refine V_draw tmix (by kernel_rfl) ?_))
      refine V_adopt 3 1 2 6 rfl rfl (by repeat constructor) (by repeat constructor) (by repeat constructor) (by repeat constructor) ?_
      refine V_adopt 49 5 2 7 rfl rfl (by repeat constructor) (by repeat constructor) (by repeat constructor) (by repeat constructor) ?_
      refine V_adopt 52 9 2 8 rfl rfl (by repeat constructor) (by repeat constructor) (by repeat constructor) (by repeat constructor) ?_
      refine V_ret ?_
      exact ⟨trivial, _, (by repeat (first | exact rfl | exact ResV_ag rfl rfl TI.h rfl rfl | exact ResV_one rfl rfl TI.h rfl | constructor)), by decide⟩
    · cases hc
  repeat (first | refine VO_d ?_ | refine VQ_d ?_ | (first | refine VO_q (Q_build TBd.h TZ.h rfl (by repeat constructor)) rfl ?_ | refine VQ_q (Q_build TBd.h TZ.h rfl (by repeat constructor)) rfl ?_ | (refine VO_bare rfl rfl rfl rfl ?_; refine VO_q (Q_build TBd.h TZ.h rfl (by repeat constructor)) rfl ?_) | refine VQ_run rfl rfl rfl rfl (Q_build TBd.h TZ.h rfl (by repeat constructor)) rfl ?_) | (first | refine VO_q (Q_ar rfl rfl rfl) rfl ?_ | refine VQ_q (Q_ar rfl rfl rfl) rfl ?_ | (refine VO_bare rfl rfl rfl rfl ?_; refine VO_q (Q_ar rfl rfl rfl) rfl ?_) | refine VQ_run rfl rfl rfl rfl (Q_ar rfl rfl rfl) rfl ?_) | (first | refine VO_nil ?_ | refine VQ_nil ?_) | (first | refine V_seq_region ?_ | refine V_seq (V_seq_region ?_) | refine V_seq_draw tmix (by kernel_rfl) ?_ | refine V_seq (V_seq_draw tmix (by kernel_rfl) ?_) | refine V_region ?_ | refine V_draw tmix (by kernel_rfl) ?_))
  (first | refine V_cond rfl (fun h2 => ?_) (fun h2 => ?_) | refine V_seq (V_cond rfl (fun h2 => ?_) (fun h2 => ?_)))
  · skip
    simp only [evP, h1, h2, cond_true, cond_false, Prod.mk.injEq] at hres
    obtain ⟨⟨rfl, rfl⟩, rfl⟩ := hres
    repeat (first | refine VO_d ?_ | refine VQ_d ?_ | (first | refine VO_q (Q_build TBd.h TZ.h rfl (by repeat constructor)) rfl ?_ | refine VQ_q (Q_build TBd.h TZ.h rfl (by repeat constructor)) rfl ?_ | (refine VO_bare rfl rfl rfl rfl ?_; refine VO_q (Q_build TBd.h TZ.h rfl (by repeat constructor)) rfl ?_) | refine VQ_run rfl rfl rfl rfl (Q_build TBd.h TZ.h rfl (by repeat constructor)) rfl ?_) | (first | refine VO_q (Q_ar rfl rfl rfl) rfl ?_ | refine VQ_q (Q_ar rfl rfl rfl) rfl ?_ | (refine VO_bare rfl rfl rfl rfl ?_; refine VO_q (Q_ar rfl rfl rfl) rfl ?_) | refine VQ_run rfl rfl rfl rfl (Q_ar rfl rfl rfl) rfl ?_) | (first | refine VO_nil ?_ | refine VQ_nil ?_) | (first | refine V_seq_region ?_ | refine V_seq (V_seq_region ?_) | refine V_seq_draw tmix (by kernel_rfl) ?_ | refine V_seq (V_seq_draw tmix (by kernel_rfl) ?_) | refine V_region ?_ | refine V_draw tmix (by kernel_rfl) ?_))
    refine V_adopt 3 1 2 6 rfl rfl (by repeat constructor) (by repeat constructor) (by repeat constructor) (by repeat constructor) ?_
    refine V_adopt 49 5 2 7 rfl rfl (by repeat constructor) (by repeat constructor) (by repeat constructor) (by repeat constructor) ?_
    refine V_adopt 52 9 2 8 rfl rfl (by repeat constructor) (by repeat constructor) (by repeat constructor) (by repeat constructor) ?_
    refine V_ret ?_
    exact ⟨trivial, _, (by repeat (first | exact rfl | exact ResV_ag rfl rfl TI.h rfl rfl | exact ResV_one rfl rfl TI.h rfl | constructor)), by decide⟩
  refine V_skip ?_
  repeat (first | refine VO_d ?_ | refine VQ_d ?_ | (first | refine VO_q (Q_build TBd.h TZ.h rfl (by repeat constructor)) rfl ?_ | refine VQ_q (Q_build TBd.h TZ.h rfl (by repeat constructor)) rfl ?_ | (refine VO_bare rfl rfl rfl rfl ?_; refine VO_q (Q_build TBd.h TZ.h rfl (by repeat constructor)) rfl ?_) | refine VQ_run rfl rfl rfl rfl (Q_build TBd.h TZ.h rfl (by repeat constructor)) rfl ?_) | (first | refine VO_q (Q_ar rfl rfl rfl) rfl ?_ | refine VQ_q (Q_ar rfl rfl rfl) rfl ?_ | (refine VO_bare rfl rfl rfl rfl ?_; refine VO_q (Q_ar rfl rfl rfl) rfl ?_) | refine VQ_run rfl rfl rfl rfl (Q_ar rfl rfl rfl) rfl ?_) | (first | refine VO_nil ?_ | refine VQ_nil ?_) | (first | refine V_seq_region ?_ | refine V_seq (V_seq_region ?_) | refine V_seq_draw tmix (by kernel_rfl) ?_ | refine V_seq (V_seq_draw tmix (by kernel_rfl) ?_) | refine V_region ?_ | refine V_draw tmix (by kernel_rfl) ?_))
  refine V_block ?_
  repeat (first | refine VO_d ?_ | refine VQ_d ?_ | (first | refine VO_q (Q_build TBd.h TZ.h rfl (by repeat constructor)) rfl ?_ | refine VQ_q (Q_build TBd.h TZ.h rfl (by repeat constructor)) rfl ?_ | (refine VO_bare rfl rfl rfl rfl ?_; refine VO_q (Q_build TBd.h TZ.h rfl (by repeat constructor)) rfl ?_) | refine VQ_run rfl rfl rfl rfl (Q_build TBd.h TZ.h rfl (by repeat constructor)) rfl ?_) | (first | refine VO_q (Q_ar rfl rfl rfl) rfl ?_ | refine VQ_q (Q_ar rfl rfl rfl) rfl ?_ | (refine VO_bare rfl rfl rfl rfl ?_; refine VO_q (Q_ar rfl rfl rfl) rfl ?_) | refine VQ_run rfl rfl rfl rfl (Q_ar rfl rfl rfl) rfl ?_) | (first | refine VO_nil ?_ | refine VQ_nil ?_) | (first | refine V_seq_region ?_ | refine V_seq (V_seq_region ?_) | refine V_seq_draw tmix (by kernel_rfl) ?_ | refine V_seq (V_seq_draw tmix (by kernel_rfl) ?_) | refine V_region ?_ | refine V_draw tmix (by kernel_rfl) ?_))
  (first | refine V_cond rfl (fun h3 => ?_) (fun h3 => ?_) | refine V_seq (V_cond rfl (fun h3 => ?_) (fun h3 => ?_)))
  · replace h3 : (nm == [43]) = true := h3
    simp only [evP, h1, h2, h3, cond_true, cond_false, Prod.mk.injEq] at hres
    obtain ⟨⟨rfl, rfl⟩, rfl⟩ := hres
    repeat (first | refine VO_d ?_ | refine VQ_d ?_ | (first | refine VO_q (Q_build TBd.h TZ.h rfl (by repeat constructor)) rfl ?_ | refine VQ_q (Q_build TBd.h TZ.h rfl (by repeat constructor)) rfl ?_ | (refine VO_bare rfl rfl rfl rfl ?_; refine VO_q (Q_build TBd.h TZ.h rfl (by repeat constructor)) rfl ?_) | refine VQ_run rfl rfl rfl rfl (Q_build TBd.h TZ.h rfl (by repeat constructor)) rfl ?_) | (first | refine VO_q (Q_ar rfl rfl rfl) rfl ?_ | refine VQ_q (Q_ar rfl rfl rfl) rfl ?_ | (refine VO_bare rfl rfl rfl rfl ?_; refine VO_q (Q_ar rfl rfl rfl) rfl ?_) | refine VQ_run rfl rfl rfl rfl (Q_ar rfl rfl rfl) rfl ?_) | (first | refine VO_nil ?_ | refine VQ_nil ?_) | (first | refine V_seq_region ?_ | refine V_seq (V_seq_region ?_) | refine V_seq_draw tmix (by kernel_rfl) ?_ | refine V_seq (V_seq_draw tmix (by kernel_rfl) ?_) | refine V_region ?_ | refine V_draw tmix (by kernel_rfl) ?_))
    refine V_adopt 3 1 2 6 rfl rfl (by repeat constructor) (by repeat constructor) (by repeat constructor) (by repeat constructor) ?_
    refine V_adopt 49 5 2 7 rfl rfl (by repeat constructor) (by repeat constructor) (by repeat constructor) (by repeat constructor) ?_
    refine V_adopt 52 9 2 8 rfl rfl (by repeat constructor) (by repeat constructor) (by repeat constructor) (by repeat constructor) ?_
    refine V_ret ?_
    exact ⟨trivial, _, (by repeat (first | exact rfl | exact ResV_ag rfl rfl TI.h rfl rfl | exact ResV_one rfl rfl TI.h rfl | constructor)), by decide⟩
  replace h3 : (nm == [43]) = false := h3
  repeat (first | refine VO_d ?_ | refine VQ_d ?_ | (first | refine VO_q (Q_build TBd.h TZ.h rfl (by repeat constructor)) rfl ?_ | refine VQ_q (Q_build TBd.h TZ.h rfl (by repeat constructor)) rfl ?_ | (refine VO_bare rfl rfl rfl rfl ?_; refine VO_q (Q_build TBd.h TZ.h rfl (by repeat constructor)) rfl ?_) | refine VQ_run rfl rfl rfl rfl (Q_build TBd.h TZ.h rfl (by repeat constructor)) rfl ?_) | (first | refine VO_q (Q_ar rfl rfl rfl) rfl ?_ | refine VQ_q (Q_ar rfl rfl rfl) rfl ?_ | (refine VO_bare rfl rfl rfl rfl ?_; refine VO_q (Q_ar rfl rfl rfl) rfl ?_) | refine VQ_run rfl rfl rfl rfl (Q_ar rfl rfl rfl) rfl ?_) | (first | refine VO_nil ?_ | refine VQ_nil ?_) | (first | refine V_seq_region ?_ | refine V_seq (V_seq_region ?_) | refine V_seq_draw tmix (by kernel_rfl) ?_ | refine V_seq (V_seq_draw tmix (by kernel_rfl) ?_) | refine V_region ?_ | refine V_draw tmix (by kernel_rfl) ?_))
  (first | refine V_cond rfl (fun h4 => ?_) (fun h4 => ?_) | refine V_seq (V_cond rfl (fun h4 => ?_) (fun h4 => ?_)))
  · replace h4 : (nm == [45]) = true := h4
    simp only [evP, h1, h2, h3, h4, cond_true, cond_false, Prod.mk.injEq] at hres
    obtain ⟨⟨rfl, rfl⟩, rfl⟩ := hres
    repeat (first | refine VO_d ?_ | refine VQ_d ?_ | (first | refine VO_q (Q_build TBd.h TZ.h rfl (by repeat constructor)) rfl ?_ | refine VQ_q (Q_build TBd.h TZ.h rfl (by repeat constructor)) rfl ?_ | (refine VO_bare rfl rfl rfl rfl ?_; refine VO_q (Q_build TBd.h TZ.h rfl (by repeat constructor)) rfl ?_) | refine VQ_run rfl rfl rfl rfl (Q_build TBd.h TZ.h rfl (by repeat constructor)) rfl ?_) | (first | refine VO_q (Q_ar rfl rfl rfl) rfl ?_ | refine VQ_q (Q_ar rfl rfl rfl) rfl ?_ | (refine VO_bare rfl rfl rfl rfl ?_; refine VO_q (Q_ar rfl rfl rfl) rfl ?_) | refine VQ_run rfl rfl rfl rfl (Q_ar rfl rfl rfl) rfl ?_) | (first | refine VO_nil ?_ | refine VQ_nil ?_) | (first | refine V_seq_region ?_ | refine V_seq (V_seq_region ?_) | refine V_seq_draw tmix (by kernel_rfl) ?_ | refine V_seq (V_seq_draw tmix (by kernel_rfl) ?_) | refine V_region ?_ | refine V_draw tmix (by kernel_rfl) ?_))
    refine V_adopt 3 1 2 6 rfl rfl (by repeat constructor) (by repeat constructor) (by repeat constructor) (by repeat constructor) ?_
    refine V_adopt 49 5 2 7 rfl rfl (by repeat constructor) (by repeat constructor) (by repeat constructor) (by repeat constructor) ?_
    refine V_adopt 52 9 2 8 rfl rfl (by repeat constructor) (by repeat constructor) (by repeat constructor) (by repeat constructor) ?_
    refine V_ret ?_
    exact ⟨trivial, _, (by repeat (first | exact rfl | exact ResV_ag rfl rfl TI.h rfl rfl | exact ResV_one rfl rfl TI.h rfl | constructor)), by decide⟩
  replace h4 : (nm == [45]) = false := h4
  repeat (first | refine VO_d ?_ | refine VQ_d ?_ | (first | refine VO_q (Q_build TBd.h TZ.h rfl (by repeat constructor)) rfl ?_ | refine VQ_q (Q_build TBd.h TZ.h rfl (by repeat constructor)) rfl ?_ | (refine VO_bare rfl rfl rfl rfl ?_; refine VO_q (Q_build TBd.h TZ.h rfl (by repeat constructor)) rfl ?_) | refine VQ_run rfl rfl rfl rfl (Q_build TBd.h TZ.h rfl (by repeat constructor)) rfl ?_) | (first | refine VO_q (Q_ar rfl rfl rfl) rfl ?_ | refine VQ_q (Q_ar rfl rfl rfl) rfl ?_ | (refine VO_bare rfl rfl rfl rfl ?_; refine VO_q (Q_ar rfl rfl rfl) rfl ?_) | refine VQ_run rfl rfl rfl rfl (Q_ar rfl rfl rfl) rfl ?_) | (first | refine VO_nil ?_ | refine VQ_nil ?_) | (first | refine V_seq_region ?_ | refine V_seq (V_seq_region ?_) | refine V_seq_draw tmix (by kernel_rfl) ?_ | refine V_seq (V_seq_draw tmix (by kernel_rfl) ?_) | refine V_region ?_ | refine V_draw tmix (by kernel_rfl) ?_))
  (first | refine V_cond rfl (fun h5 => ?_) (fun h5 => ?_) | refine V_seq (V_cond rfl (fun h5 => ?_) (fun h5 => ?_)))
  · replace h5 : (nm == [42]) = true := h5
    simp only [evP, h1, h2, h3, h4, h5, cond_true, cond_false, Prod.mk.injEq] at hres
    obtain ⟨⟨rfl, rfl⟩, rfl⟩ := hres
    repeat (first | refine VO_d ?_ | refine VQ_d ?_ | (first | refine VO_q (Q_build TBd.h TZ.h rfl (by repeat constructor)) rfl ?_ | refine VQ_q (Q_build TBd.h TZ.h rfl (by repeat constructor)) rfl ?_ | (refine VO_bare rfl rfl rfl rfl ?_; refine VO_q (Q_build TBd.h TZ.h rfl (by repeat constructor)) rfl ?_) | refine VQ_run rfl rfl rfl rfl (Q_build TBd.h TZ.h rfl (by repeat constructor)) rfl ?_) | (first | refine VO_q (Q_ar rfl rfl rfl) rfl ?_ | refine VQ_q (Q_ar rfl rfl rfl) rfl ?_ | (refine VO_bare rfl rfl rfl rfl ?_; refine VO_q (Q_ar rfl rfl rfl) rfl ?_) | refine VQ_run rfl rfl rfl rfl (Q_ar rfl rfl rfl) rfl ?_) | (first | refine VO_nil ?_ | refine VQ_nil ?_) | (first | refine V_seq_region ?_ | refine V_seq (V_seq_region ?_) | refine V_seq_draw tmix (by kernel_rfl) ?_ | refine V_seq (V_seq_draw tmix (by kernel_rfl) ?_) | refine V_region ?_ | refine V_draw tmix (by kernel_rfl) ?_))
    refine V_adopt 3 1 2 6 rfl rfl (by repeat constructor) (by repeat constructor) (by repeat constructor) (by repeat constructor) ?_
    refine V_adopt 49 5 2 7 rfl rfl (by repeat constructor) (by repeat constructor) (by repeat constructor) (by repeat constructor) ?_
    refine V_adopt 52 9 2 8 rfl rfl (by repeat constructor) (by repeat constructor) (by repeat constructor) (by repeat constructor) ?_
    refine V_ret ?_
    exact ⟨trivial, _, (by repeat (first | exact rfl | exact ResV_ag rfl rfl TI.h rfl rfl | exact ResV_one rfl rfl TI.h rfl | constructor)), by decide⟩
  replace h5 : (nm == [42]) = false := h5
  repeat (first | refine VO_d ?_ | refine VQ_d ?_ | (first | refine VO_q (Q_build TBd.h TZ.h rfl (by repeat constructor)) rfl ?_ | refine VQ_q (Q_build TBd.h TZ.h rfl (by repeat constructor)) rfl ?_ | (refine VO_bare rfl rfl rfl rfl ?_; refine VO_q (Q_build TBd.h TZ.h rfl (by repeat constructor)) rfl ?_) | refine VQ_run rfl rfl rfl rfl (Q_build TBd.h TZ.h rfl (by repeat constructor)) rfl ?_) | (first | refine VO_q (Q_ar rfl rfl rfl) rfl ?_ | refine VQ_q (Q_ar rfl rfl rfl) rfl ?_ | (refine VO_bare rfl rfl rfl rfl ?_; refine VO_q (Q_ar rfl rfl rfl) rfl ?_) | refine VQ_run rfl rfl rfl rfl (Q_ar rfl rfl rfl) rfl ?_) | (first | refine VO_nil ?_ | refine VQ_nil ?_) | (first | refine V_seq_region ?_ | refine V_seq (V_seq_region ?_) | refine V_seq_draw tmix (by kernel_rfl) ?_ | refine V_seq (V_seq_draw tmix (by kernel_rfl) ?_) | refine V_region ?_ | refine V_draw tmix (by kernel_rfl) ?_))
  (first | refine V_cond rfl (fun h6 => ?_) (fun h6 => ?_) | refine V_seq (V_cond rfl (fun h6 => ?_) (fun h6 => ?_)))
  · replace h6 : (nm == [60]) = true := h6
    simp only [evP, h1, h2, h3, h4, h5, h6, cond_true, cond_false, Prod.mk.injEq] at hres
    obtain ⟨⟨rfl, rfl⟩, rfl⟩ := hres
    repeat (first | refine VO_d ?_ | refine VQ_d ?_ | (first | refine VO_q (Q_build TBd.h TZ.h rfl (by repeat constructor)) rfl ?_ | refine VQ_q (Q_build TBd.h TZ.h rfl (by repeat constructor)) rfl ?_ | (refine VO_bare rfl rfl rfl rfl ?_; refine VO_q (Q_build TBd.h TZ.h rfl (by repeat constructor)) rfl ?_) | refine VQ_run rfl rfl rfl rfl (Q_build TBd.h TZ.h rfl (by repeat constructor)) rfl ?_) | (first | refine VO_q (Q_ar rfl rfl rfl) rfl ?_ | refine VQ_q (Q_ar rfl rfl rfl) rfl ?_ | (refine VO_bare rfl rfl rfl rfl ?_; refine VO_q (Q_ar rfl rfl rfl) rfl ?_) | refine VQ_run rfl rfl rfl rfl (Q_ar rfl rfl rfl) rfl ?_) | (first | refine VO_nil ?_ | refine VQ_nil ?_) | (first | refine V_seq_region ?_ | refine V_seq (V_seq_region ?_) | refine V_seq_draw tmix (by kernel_rfl) ?_ | refine V_seq (V_seq_draw tmix (by kernel_rfl) ?_) | refine V_region ?_ | refine V_draw tmix (by kernel_rfl) ?_))
    refine VO_callO rfl (specTruth _) (by (repeat (first | exact trivial | exact rfl | exact ⟨_, rfl⟩ | refine And.intro ?_ ?_)); first | done | fail) (by repeat constructor) (by repeat constructor) (by repeat constructor) rfl ?_
    repeat (first | refine VO_d ?_ | refine VQ_d ?_ | (first | refine VO_q (Q_build TBd.h TZ.h rfl (by repeat constructor)) rfl ?_ | refine VQ_q (Q_build TBd.h TZ.h rfl (by repeat constructor)) rfl ?_ | (refine VO_bare rfl rfl rfl rfl ?_; refine VO_q (Q_build TBd.h TZ.h rfl (by repeat constructor)) rfl ?_) | refine VQ_run rfl rfl rfl rfl (Q_build TBd.h TZ.h rfl (by repeat constructor)) rfl ?_) | (first | refine VO_q (Q_ar rfl rfl rfl) rfl ?_ | refine VQ_q (Q_ar rfl rfl rfl) rfl ?_ | (refine VO_bare rfl rfl rfl rfl ?_; refine VO_q (Q_ar rfl rfl rfl) rfl ?_) | refine VQ_run rfl rfl rfl rfl (Q_ar rfl rfl rfl) rfl ?_) | (first | refine VO_nil ?_ | refine VQ_nil ?_) | (first | refine V_seq_region ?_ | refine V_seq (V_seq_region ?_) | refine V_seq_draw tmix (by kernel_rfl) ?_ | refine V_seq (V_seq_draw tmix (by kernel_rfl) ?_) | refine V_region ?_ | refine V_draw tmix (by kernel_rfl) ?_))
    refine V_ret ?_
    exact ⟨trivial, _, (by repeat (first | exact rfl | exact ResV_ag rfl rfl TI.h rfl rfl | exact ResV_one rfl rfl TI.h rfl | constructor)), by decide⟩
  replace h6 : (nm == [60]) = false := h6
  repeat (first | refine VO_d ?_ | refine VQ_d ?_ | (first | refine VO_q (Q_build TBd.h TZ.h rfl (by repeat constructor)) rfl ?_ | refine VQ_q (Q_build TBd.h TZ.h rfl (by repeat constructor)) rfl ?_ | (refine VO_bare rfl rfl rfl rfl ?_; refine VO_q (Q_build TBd.h TZ.h rfl (by repeat constructor)) rfl ?_) | refine VQ_run rfl rfl rfl rfl (Q_build TBd.h TZ.h rfl (by repeat constructor)) rfl ?_) | (first | refine VO_q (Q_ar rfl rfl rfl) rfl ?_ | refine VQ_q (Q_ar rfl rfl rfl) rfl ?_ | (refine VO_bare rfl rfl rfl rfl ?_; refine VO_q (Q_ar rfl rfl rfl) rfl ?_) | refine VQ_run rfl rfl rfl rfl (Q_ar rfl rfl rfl) rfl ?_) | (first | refine VO_nil ?_ | refine VQ_nil ?_) | (first | refine V_seq_region ?_ | refine V_seq (V_seq_region ?_) | refine V_seq_draw tmix (by kernel_rfl) ?_ | refine V_seq (V_seq_draw tmix (by kernel_rfl) ?_) | refine V_region ?_ | refine V_draw tmix (by kernel_rfl) ?_))
  (first | refine V_cond rfl (fun h7 => ?_) (fun h7 => ?_) | refine V_seq (V_cond rfl (fun h7 => ?_) (fun h7 => ?_)))
  · replace h7 : (nm == [61]) = true := h7
    simp only [evP, h1, h2, h3, h4, h5, h6, h7, cond_true, cond_false, Prod.mk.injEq] at hres
    obtain ⟨⟨rfl, rfl⟩, rfl⟩ := hres
    repeat (first | refine VO_d ?_ | refine VQ_d ?_ | (first | refine VO_q (Q_build TBd.h TZ.h rfl (by repeat constructor)) rfl ?_ | refine VQ_q (Q_build TBd.h TZ.h rfl (by repeat constructor)) rfl ?_ | (refine VO_bare rfl rfl rfl rfl ?_; refine VO_q (Q_build TBd.h TZ.h rfl (by repeat constructor)) rfl ?_) | refine VQ_run rfl rfl rfl rfl (Q_build TBd.h TZ.h rfl (by repeat constructor)) rfl ?_) | (first | refine VO_q (Q_ar rfl rfl rfl) rfl ?_ | refine VQ_q (Q_ar rfl rfl rfl) rfl ?_ | (refine VO_bare rfl rfl rfl rfl ?_; refine VO_q (Q_ar rfl rfl rfl) rfl ?_) | refine VQ_run rfl rfl rfl rfl (Q_ar rfl rfl rfl) rfl ?_) | (first | refine VO_nil ?_ | refine VQ_nil ?_) | (first | refine V_seq_region ?_ | refine V_seq (V_seq_region ?_) | refine V_seq_draw tmix (by kernel_rfl) ?_ | refine V_seq (V_seq_draw tmix (by kernel_rfl) ?_) | refine V_region ?_ | refine V_draw tmix (by kernel_rfl) ?_))
    refine VO_callO rfl (specTruth _) (by (repeat (first | exact trivial | exact rfl | exact ⟨_, rfl⟩ | refine And.intro ?_ ?_)); first | done | fail) (by repeat constructor) (by repeat constructor) (by repeat constructor) rfl ?_
    repeat (first | refine VO_d ?_ | refine VQ_d ?_ | (first | refine VO_q (Q_build TBd.h TZ.h rfl (by repeat constructor)) rfl ?_ | refine VQ_q (Q_build TBd.h TZ.h rfl (by repeat constructor)) rfl ?_ | (refine VO_bare rfl rfl rfl rfl ?_; refine VO_q (Q_build TBd.h TZ.h rfl (by repeat constructor)) rfl ?_) | refine VQ_run rfl rfl rfl rfl (Q_build TBd.h TZ.h rfl (by repeat constructor)) rfl ?_) | (first | refine VO_q (Q_ar rfl rfl rfl) rfl ?_ | refine VQ_q (Q_ar rfl rfl rfl) rfl ?_ | (refine VO_bare rfl rfl rfl rfl ?_; refine VO_q (Q_ar rfl rfl rfl) rfl ?_) | refine VQ_run rfl rfl rfl rfl (Q_ar rfl rfl rfl) rfl ?_) | (first | refine VO_nil ?_ | refine VQ_nil ?_) | (first | refine V_seq_region ?_ | refine V_seq (V_seq_region ?_) | refine V_seq_draw tmix (by kernel_rfl) ?_ | refine V_seq (V_seq_draw tmix (by kernel_rfl) ?_) | refine V_region ?_ | refine V_draw tmix (by kernel_rfl) ?_))
    refine V_ret ?_
    exact ⟨trivial, _, (by repeat (first | exact rfl | exact ResV_ag rfl rfl TI.h rfl rfl | exact ResV_one rfl rfl TI.h rfl | constructor)), by decide⟩
  replace h7 : (nm == [61]) = false := h7
  refine V_skip ?_
  simp only [evP, h1, h2, h3, h4, h5, h6, h7, cond_true, cond_false, Prod.mk.injEq] at hres
  obtain ⟨⟨rfl, rfl⟩, rfl⟩ := hres
  show V _ _ _ _ _
  repeat (first | refine VO_d ?_ | refine VQ_d ?_ | (first | refine VO_q (Q_build TBd.h TZ.h rfl (by repeat constructor)) rfl ?_ | refine VQ_q (Q_build TBd.h TZ.h rfl (by repeat constructor)) rfl ?_ | (refine VO_bare rfl rfl rfl rfl ?_; refine VO_q (Q_build TBd.h TZ.h rfl (by repeat constructor)) rfl ?_) | refine VQ_run rfl rfl rfl rfl (Q_build TBd.h TZ.h rfl (by repeat constructor)) rfl ?_) | (first | refine VO_q (Q_ar rfl rfl rfl) rfl ?_ | refine VQ_q (Q_ar rfl rfl rfl) rfl ?_ | (refine VO_bare rfl rfl rfl rfl ?_; refine VO_q (Q_ar rfl rfl rfl) rfl ?_) | refine VQ_run rfl rfl rfl rfl (Q_ar rfl rfl rfl) rfl ?_) | (first | refine VO_nil ?_ | refine VQ_nil ?_) | (first | refine V_seq_region ?_ | refine V_seq (V_seq_region ?_) | refine V_seq_draw tmix (by kernel_rfl) ?_ | refine V_seq (V_seq_draw tmix (by kernel_rfl) ?_) | refine V_region ?_ | refine V_draw tmix (by kernel_rfl) ?_))
  refine V_adopt 3 1 2 6 rfl rfl (by repeat constructor) (by repeat constructor) (by repeat constructor) (by repeat constructor) ?_
  refine V_adopt 49 5 2 7 rfl rfl (by repeat constructor) (by repeat constructor) (by repeat constructor) (by repeat constructor) ?_
  refine V_adopt 52 9 2 8 rfl rfl (by repeat constructor) (by repeat constructor) (by repeat constructor) (by repeat constructor) ?_
  refine V_ret ?_
  exact ⟨trivial, _, (by repeat (first | exact rfl | exact ResV_ag rfl rfl TI.h rfl rfl | exact ResV_one rfl rfl TI.h rfl | constructor)), by decide⟩

theorem wrap_range (n : Int) : inRange (IntKind.i64.wrap n) := by
  have key : ∀ m : Int, 0 ≤ m → m < 18446744073709551616 → inRange (if (true && decide (m ≥ 9223372036854775808)) = true then m - 18446744073709551616 else m) := by
    intro m h1 h2
    unfold inRange
    cases hc : decide (m ≥ 9223372036854775808) with
    | true => simp only [decide_eq_true_eq] at hc; simp only [Bool.true_and, if_true]; omega
    | false => simp only [decide_eq_false_iff_not] at hc; simp only [Bool.true_and, Bool.false_eq_true, if_false]; omega
  exact key (n % 18446744073709551616) (Int.emod_nonneg n (by decide)) (Int.emod_lt_of_pos n (by decide))
theorem ev_wt {nm : List UInt8} {a1 b1 a2 b2 k n : Int} {r : Bool} (h : evP nm a1 b1 a2 b2 = ((k, n), r)) : wt (.st 27) (vv k n) ∧ W (vv k n) ≤ 1048576 := by
  have r0 : inRange 0 := by simp [inRange]
  have r1 : inRange 1 := by simp [inRange]
  have r2 : inRange 2 := by simp [inRange]
  have hk : inRange k ∧ inRange n := by
    unfold evP at h
    simp only [Bool.cond_eq_ite] at h
    repeat' split at h
    all_goals (simp only [Prod.mk.injEq] at h; obtain ⟨⟨rfl, rfl⟩, rfl⟩ := h; first | exact ⟨r0, r0⟩ | exact ⟨r1, wrap_range _⟩ | exact ⟨r2, r0⟩ | exact ⟨r2, r1⟩ | exact ⟨r2, by split <;> assumption⟩)
  exact ⟨⟨⟨rfl, hk.1⟩, ⟨rfl, hk.2⟩, (by simp [wt]), ⟨⟨rfl, r0⟩, ⟨⟨rfl, r0⟩, ⟨rfl, r0⟩, trivial⟩, ⟨rfl, by simp, trivial⟩, ⟨rfl, by simp, trivial⟩, trivial⟩, ⟨rfl, by simp, trivial⟩, trivial⟩, by simp only [W, Ws, List.length_nil]; omega⟩

theorem bothEv {nm : List UInt8} {u1 u2 : U} (hn : nm.length ≤ big) (w1 : wt (.st 27) u1) (w2 : wt (.st 27) u2) : ∃ (r0 : U) (r1 : Bool), wt (.st 27) r0 ∧ (SpecP Try.prog 16 [.d (.s nm), .d u1, .d u2] [r0, .b r1] ∧ SpecO Try.prog 18 [.d (.s nm), .d u1, .d u2] [3, 49, 52] [r0, .b r1] ∧ W r0 ≤ 1048576) := by
  obtain ⟨k, n, r, h1⟩ := implEv hn w1 w2
  obtain ⟨k', n', r', h2⟩ := specEv hn w1 w2
  obtain ⟨x0, x1, x2, x3, x4, rfl, _⟩ := inv_Value w1
  obtain ⟨y0, y1, y2, y3, y4, rfl, _⟩ := inv_Value w2
  obtain ⟨e1, s1⟩ := h1 _ _ _ _ _ _ rfl rfl
  obtain ⟨e2, s2⟩ := h2 _ _ _ _ _ _ rfl rfl
  rw [e1] at e2
  cases e2
  obtain ⟨g1, g2⟩ := ev_wt e1
  exact ⟨_, _, g1, s2.p, s1, g2⟩

end Go.Proofs.Ytjckkahiapjkfaa
