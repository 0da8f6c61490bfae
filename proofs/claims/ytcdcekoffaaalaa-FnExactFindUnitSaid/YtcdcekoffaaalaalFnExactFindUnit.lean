/- FindUnit of the program returns what the reference's returns, for all arguments (where they hold together at most 2^20 elements and letters; the law itself asks for no more), leaves its arguments unmodified. -/
import Derived.Test.YtcdcekoffaaalaaRows
import Derived.Test.YtcdcekoffaaalaaFindU
import Derived.WalkKit
import Derived.ProofKit
import Derived.OpenShut
import Derived.ShutString
import Derived.ChangeOld
import Derived.Below
set_option linter.unusedVariables false
set_option linter.unusedSimpArgs false
namespace Go.Proofs.Ytcdcekoffaaalaa.lFnExactFindUnit
open Go Go.Eng Go.ChangeShapes Go.WideShapes Go.ChangeAt Go.RowKit
open Go.ChangeMaps (open_string shut_string)
open Go.Proofs.Ytcdcekoffaaalaa

section
attribute [local irreducible] V VO VQ Quiet SpecP
set_option maxHeartbeats 8000000 in
theorem walk {u0 u1 u2 u3 u4 : U} (w0 : wt (.sl (.st 25)) u0) (w1 : wt (.int) u1) (w2 : wt (.int) u2) (w3 : wt (.int) u3) (w4 : wt (.int) u4) : SpecP Try.prog 6 [.d u0, .d u1, .d u2, .d u3, .d u4] [.b true] := by
  obtain ⟨us0, rfl, wl0, wa0⟩ := inv_sl w0
  have hs0 : ∀ l : Int, 0 ≤ l → l ≤ 4611686018427387904 → SpecP Try.prog 19 [.d (U.sl 21 us0), .d (.i .i64 l)] [.i .i64 (if (W (U.sl 21 us0) : Int) ≤ l then l - W (U.sl 21 us0) else -1)] := szUnitS_all ⟨wl0, wa0⟩
  have ht0 : W (U.sl 21 us0) ≤ 1048576 → SpecP Try.prog 21 [.d (U.sl 21 us0)] [(U.sl 21 us0)] := toUnitS_all ⟨wl0, wa0⟩
  have he0 := eqUnitS_all ⟨wl0, wa0⟩ ⟨wl0, wa0⟩
  obtain ⟨c0, hspec, himpl⟩ := bothFU ⟨wl0, wa0⟩ w1 w2 w3 w4
  generalize W (U.sl 21 us0) = m0 at hs0 ht0
  obtain ⟨n1, rfl, r1⟩ := inv_int w1
  obtain ⟨n2, rfl, r2⟩ := inv_int w2
  obtain ⟨n3, rfl, r3⟩ := inv_int w3
  obtain ⟨n4, rfl, r4⟩ := inv_int w4
  refine SpecP_intro Try.func6 rfl (by kernel_rfl) rfl fun A => ?_
  (first | refine V_seq_region ?_ | refine V_seq (V_seq_region ?_) | refine V_seq_draw tmix (by kernel_rfl) ?_ | refine V_seq (V_seq_draw tmix (by kernel_rfl) ?_) | refine V_region ?_ | refine V_draw tmix (by kernel_rfl) ?_)
  repeat refine VO_d ?_
  (first | refine VO_nil ?_ | refine VQ_nil ?_)
  (first | refine V_seq_region ?_ | refine V_seq (V_seq_region ?_) | refine V_seq_draw tmix (by kernel_rfl) ?_ | refine V_seq (V_seq_draw tmix (by kernel_rfl) ?_) | refine V_region ?_ | refine V_draw tmix (by kernel_rfl) ?_)
  repeat refine VO_d ?_
  (first | refine VO_nil ?_ | refine VQ_nil ?_)
  (first | refine V_seq_region ?_ | refine V_seq (V_seq_region ?_) | refine V_seq_draw tmix (by kernel_rfl) ?_ | refine V_seq (V_seq_draw tmix (by kernel_rfl) ?_) | refine V_region ?_ | refine V_draw tmix (by kernel_rfl) ?_)
  repeat refine VO_d ?_
  (first | refine VO_q (Q_call rfl (hs0 1048576 (by omega) (by omega)) (by repeat (first | exact trivial | exact rfl | exact ⟨_, rfl⟩ | refine And.intro ?_ ?_))) rfl ?_ | refine VQ_q (Q_call rfl (hs0 1048576 (by omega) (by omega)) (by repeat (first | exact trivial | exact rfl | exact ⟨_, rfl⟩ | refine And.intro ?_ ?_))) rfl ?_ | (refine VO_bare rfl rfl rfl rfl ?_; refine VO_q (Q_call rfl (hs0 1048576 (by omega) (by omega)) (by repeat (first | exact trivial | exact rfl | exact ⟨_, rfl⟩ | refine And.intro ?_ ?_))) rfl ?_) | refine VQ_run rfl rfl rfl rfl (Q_call rfl (hs0 1048576 (by omega) (by omega)) (by repeat (first | exact trivial | exact rfl | exact ⟨_, rfl⟩ | refine And.intro ?_ ?_))) rfl ?_)
  repeat refine VO_d ?_
  (first | refine VO_nil ?_ | refine VQ_nil ?_)
  (first | refine V_seq_region ?_ | refine V_seq (V_seq_region ?_) | refine V_seq_draw tmix (by kernel_rfl) ?_ | refine V_seq (V_seq_draw tmix (by kernel_rfl) ?_) | refine V_region ?_ | refine V_draw tmix (by kernel_rfl) ?_)
  repeat refine VO_d ?_
  (first | refine VO_nil ?_ | refine VQ_nil ?_)
  (first | refine V_cond rfl (fun hc => ?_) (fun hc => ?_) | refine V_seq (V_cond rfl (fun hc => ?_) (fun hc => ?_)))
  · skip
    (first | refine V_seq_region ?_ | refine V_seq (V_seq_region ?_) | refine V_seq_draw tmix (by kernel_rfl) ?_ | refine V_seq (V_seq_draw tmix (by kernel_rfl) ?_) | refine V_region ?_ | refine V_draw tmix (by kernel_rfl) ?_)
    repeat refine VO_d ?_
    (first | refine VO_nil ?_ | refine VQ_nil ?_)
    refine V_ret ?_
    exact ⟨trivial, ⟨_, rfl, rfl⟩, trivial⟩
  refine V_skip ?_
  simp only [decide_eq_false_iff_not] at hc
  obtain ⟨e0, c0⟩ := ite_pos hc
  rw [e0]
  clear hc hs0
  have ht0 := ht0 (by omega)
  (first | refine V_seq_region ?_ | refine V_seq (V_seq_region ?_) | refine V_seq_draw tmix (by kernel_rfl) ?_ | refine V_seq (V_seq_draw tmix (by kernel_rfl) ?_) | refine V_region ?_ | refine V_draw tmix (by kernel_rfl) ?_)
  repeat (first | refine VO_d ?_ | refine VQ_d ?_)
  (first | refine VO_q (Q_call rfl ht0 (by repeat (first | exact trivial | exact rfl | exact ⟨_, rfl⟩ | refine And.intro ?_ ?_))) rfl ?_ | refine VQ_q (Q_call rfl ht0 (by repeat (first | exact trivial | exact rfl | exact ⟨_, rfl⟩ | refine And.intro ?_ ?_))) rfl ?_ | (refine VO_bare rfl rfl rfl rfl ?_; refine VO_q (Q_call rfl ht0 (by repeat (first | exact trivial | exact rfl | exact ⟨_, rfl⟩ | refine And.intro ?_ ?_))) rfl ?_) | refine VQ_run rfl rfl rfl rfl (Q_call rfl ht0 (by repeat (first | exact trivial | exact rfl | exact ⟨_, rfl⟩ | refine And.intro ?_ ?_))) rfl ?_)
  repeat (first | refine VO_d ?_ | refine VQ_d ?_)
  (first | refine VO_q (Q_call rfl hspec (by repeat (first | exact trivial | exact rfl | exact ⟨_, rfl⟩ | refine And.intro ?_ ?_))) rfl ?_ | refine VQ_q (Q_call rfl hspec (by repeat (first | exact trivial | exact rfl | exact ⟨_, rfl⟩ | refine And.intro ?_ ?_))) rfl ?_ | (refine VO_bare rfl rfl rfl rfl ?_; refine VO_q (Q_call rfl hspec (by repeat (first | exact trivial | exact rfl | exact ⟨_, rfl⟩ | refine And.intro ?_ ?_))) rfl ?_) | refine VQ_run rfl rfl rfl rfl (Q_call rfl hspec (by repeat (first | exact trivial | exact rfl | exact ⟨_, rfl⟩ | refine And.intro ?_ ?_))) rfl ?_)
  repeat (first | refine VO_d ?_ | refine VQ_d ?_)
  (first | refine VO_nil ?_ | refine VQ_nil ?_)
  (first | refine V_seq_region ?_ | refine V_seq (V_seq_region ?_) | refine V_seq_draw tmix (by kernel_rfl) ?_ | refine V_seq (V_seq_draw tmix (by kernel_rfl) ?_) | refine V_region ?_ | refine V_draw tmix (by kernel_rfl) ?_)
  repeat (first | refine VO_d ?_ | refine VQ_d ?_)
  (first | refine VO_q (Q_call rfl ht0 (by repeat (first | exact trivial | exact rfl | exact ⟨_, rfl⟩ | refine And.intro ?_ ?_))) rfl ?_ | refine VQ_q (Q_call rfl ht0 (by repeat (first | exact trivial | exact rfl | exact ⟨_, rfl⟩ | refine And.intro ?_ ?_))) rfl ?_ | (refine VO_bare rfl rfl rfl rfl ?_; refine VO_q (Q_call rfl ht0 (by repeat (first | exact trivial | exact rfl | exact ⟨_, rfl⟩ | refine And.intro ?_ ?_))) rfl ?_) | refine VQ_run rfl rfl rfl rfl (Q_call rfl ht0 (by repeat (first | exact trivial | exact rfl | exact ⟨_, rfl⟩ | refine And.intro ?_ ?_))) rfl ?_)
  repeat (first | refine VO_d ?_ | refine VQ_d ?_)
  (first | refine VO_nil ?_ | refine VQ_nil ?_)
  (first | refine V_seq_region ?_ | refine V_seq (V_seq_region ?_) | refine V_seq_draw tmix (by kernel_rfl) ?_ | refine V_seq (V_seq_draw tmix (by kernel_rfl) ?_) | refine V_region ?_ | refine V_draw tmix (by kernel_rfl) ?_)
  repeat (first | refine VO_d ?_ | refine VQ_d ?_)
  (first | refine VO_q (Q_call rfl himpl (by repeat (first | exact trivial | exact rfl | exact ⟨_, rfl⟩ | refine And.intro ?_ ?_))) rfl ?_ | refine VQ_q (Q_call rfl himpl (by repeat (first | exact trivial | exact rfl | exact ⟨_, rfl⟩ | refine And.intro ?_ ?_))) rfl ?_ | (refine VO_bare rfl rfl rfl rfl ?_; refine VO_q (Q_call rfl himpl (by repeat (first | exact trivial | exact rfl | exact ⟨_, rfl⟩ | refine And.intro ?_ ?_))) rfl ?_) | refine VQ_run rfl rfl rfl rfl (Q_call rfl himpl (by repeat (first | exact trivial | exact rfl | exact ⟨_, rfl⟩ | refine And.intro ?_ ?_))) rfl ?_)
  repeat (first | refine VO_d ?_ | refine VQ_d ?_)
  (first | refine VO_nil ?_ | refine VQ_nil ?_)
  (first | refine V_seq_region ?_ | refine V_seq (V_seq_region ?_) | refine V_seq_draw tmix (by kernel_rfl) ?_ | refine V_seq (V_seq_draw tmix (by kernel_rfl) ?_) | refine V_region ?_ | refine V_draw tmix (by kernel_rfl) ?_)
  repeat (first | refine VO_d ?_ | refine VQ_d ?_)
  (first | refine VO_nil ?_ | refine VQ_nil ?_)
  (first | refine V_cond rfl (fun hc => ?_) (fun hc => ?_) | refine V_seq (V_cond rfl (fun hc => ?_) (fun hc => ?_)))
  · simp at hc
  refine V_skip ?_
  clear hc
  (first | refine V_seq_region ?_ | refine V_seq (V_seq_region ?_) | refine V_seq_draw tmix (by kernel_rfl) ?_ | refine V_seq (V_seq_draw tmix (by kernel_rfl) ?_) | refine V_region ?_ | refine V_draw tmix (by kernel_rfl) ?_)
  repeat (first | refine VO_d ?_ | refine VQ_d ?_)
  (first | refine VO_q (Q_call rfl ht0 (by repeat (first | exact trivial | exact rfl | exact ⟨_, rfl⟩ | refine And.intro ?_ ?_))) rfl ?_ | refine VQ_q (Q_call rfl ht0 (by repeat (first | exact trivial | exact rfl | exact ⟨_, rfl⟩ | refine And.intro ?_ ?_))) rfl ?_ | (refine VO_bare rfl rfl rfl rfl ?_; refine VO_q (Q_call rfl ht0 (by repeat (first | exact trivial | exact rfl | exact ⟨_, rfl⟩ | refine And.intro ?_ ?_))) rfl ?_) | refine VQ_run rfl rfl rfl rfl (Q_call rfl ht0 (by repeat (first | exact trivial | exact rfl | exact ⟨_, rfl⟩ | refine And.intro ?_ ?_))) rfl ?_)
  repeat (first | refine VO_d ?_ | refine VQ_d ?_)
  (first | refine VO_q (Q_call rfl he0 (by repeat (first | exact trivial | exact rfl | exact ⟨_, rfl⟩ | refine And.intro ?_ ?_))) rfl ?_ | refine VQ_q (Q_call rfl he0 (by repeat (first | exact trivial | exact rfl | exact ⟨_, rfl⟩ | refine And.intro ?_ ?_))) rfl ?_ | (refine VO_bare rfl rfl rfl rfl ?_; refine VO_q (Q_call rfl he0 (by repeat (first | exact trivial | exact rfl | exact ⟨_, rfl⟩ | refine And.intro ?_ ?_))) rfl ?_) | refine VQ_run rfl rfl rfl rfl (Q_call rfl he0 (by repeat (first | exact trivial | exact rfl | exact ⟨_, rfl⟩ | refine And.intro ?_ ?_))) rfl ?_)
  repeat (first | refine VO_d ?_ | refine VQ_d ?_)
  (first | refine VO_nil ?_ | refine VQ_nil ?_)
  (first | refine V_cond rfl (fun hc => ?_) (fun hc => ?_) | refine V_seq (V_cond rfl (fun hc => ?_) (fun hc => ?_)))
  · rw [deq_self] at hc; cases hc
  refine V_skip ?_
  clear hc
  (first | refine V_seq_region ?_ | refine V_seq (V_seq_region ?_) | refine V_seq_draw tmix (by kernel_rfl) ?_ | refine V_seq (V_seq_draw tmix (by kernel_rfl) ?_) | refine V_region ?_ | refine V_draw tmix (by kernel_rfl) ?_)
  repeat refine VO_d ?_
  (first | refine VO_nil ?_ | refine VQ_nil ?_)
  refine V_ret ?_
  exact ⟨trivial, ⟨_, rfl, rfl⟩, trivial⟩
end

theorem own : ownKnob Try.prog.godebug = none := by kernel_rfl
theorem laidOut : laidOutB Try.prog = true := by kernel_rfl

set_option maxRecDepth 100000 in
theorem lifted (os : Os) (started : os.Started) (H : Type) (enc : TypeId × Value → H) :
    ReturnsInHanded {} Try.checked os 6 .any (Rows.fnExactFindUnitSpec.pre6 enc Try.prog Try.f6 Rows.fnExactFindUnitRow.domain false) (Rows.fnExactFindUnitSpec.post enc Try.prog Try.f6 false true false false) := by
  refine returnsInHanded_of_change_sized (C := Try.checked) own started (by kernel_rfl) Try.func6
    (ChangeSpec.witness6 (enc := enc) (C := Try.checked) false ⟨#[], #[.slice none 0 0, .int .i64 0, .int .i64 0, .int .i64 0, .int .i64 0], []⟩ 8 (by kernel_rfl) (by kernel_rfl) (by kernel_rfl) (by kernel_rfl)) ?_
  intro W base args ds gs before hval0 hW hcnd hsz _
  have hval : ∀ (j : Nat) t v, Try.f6.params[j]? = some t → args[j]? = some v → Value.okWide Try.prog W .any base t v := hval0
  have hW' := hW
  obtain ⟨p, q, hA0, hV, rfl, hfz, hnd⟩ := hW
  have hA : DataW.TrodAll enc Try.prog W 0 (fun _ => true) true Try.f6.params.toList args.toList ds p := hA0
  rw [Try.params6] at hA hval
  obtain ⟨v0, vs0, d0, ds0, p0, q0, hargs, rfl, rfl, h0, r0⟩ := trodAll_cons hA
  obtain ⟨v1, vs1, d1, ds1, p1, q1, rfl, rfl, rfl, h1, r1⟩ := trodAll_cons r0
  obtain ⟨v2, vs2, d2, ds2, p2, q2, rfl, rfl, rfl, h2, r2⟩ := trodAll_cons r1
  obtain ⟨v3, vs3, d3, ds3, p3, q3, rfl, rfl, rfl, h3, r3⟩ := trodAll_cons r2
  obtain ⟨v4, vs4, d4, ds4, p4, q4, rfl, rfl, rfl, h4, r4⟩ := trodAll_cons r3
  obtain ⟨rfl, rfl, rfl⟩ := trodAll_nil r4
  obtain rfl : args = #[v0, v1, v2, v3, v4] := by cases args; simp_all
  obtain ⟨rfl, rfl⟩ := trodVars_none hV
  have hwt : ∀ x ∈ DataW.weightsEach Try.prog (Try.f6.params.toList ++ Rows.fnExactFindUnitSpec.plain.varTypes Try.prog) ([d0, d1, d2, d3, d4] ++ []), x ≤ reachBytes := by
    intro x hx
    have := List.all_eq_true.1 hsz x hx
    simpa using this
  rw [Try.params6] at hwt
  have k0 := h0
  have lt0 : ∀ x ∈ p0, x.block < W.heap.size := by obtain ⟨m, hm⟩ := k0; exact DataW.trod_lt m _ _ _ hm
  obtain ⟨u0, s0, w0⟩ := bridgeV tm_ok h0 (show tmS 64 = some (.sl (.st 25)) from rfl) (fun x hx => hwt x (by simp [DataW.weightsEach, hx])) (ok_agg tm_ok (show tmS 64 = some (.sl (.st 25)) from rfl) (hval 0 _ v0 rfl rfl))
  have k1 := h1
  have lt1 : ∀ x ∈ p1, x.block < W.heap.size := by obtain ⟨m, hm⟩ := k1; exact DataW.trod_lt m _ _ _ hm
  obtain ⟨u1, s1, w1⟩ := bridgeV tm_ok h1 (show tmS 3 = some (.int) from rfl) (fun x hx => hwt x (by simp [DataW.weightsEach, hx])) (ok_agg tm_ok (show tmS 3 = some (.int) from rfl) (hval 1 _ v1 rfl rfl))
  have k2 := h2
  have lt2 : ∀ x ∈ p2, x.block < W.heap.size := by obtain ⟨m, hm⟩ := k2; exact DataW.trod_lt m _ _ _ hm
  obtain ⟨u2, s2, w2⟩ := bridgeV tm_ok h2 (show tmS 3 = some (.int) from rfl) (fun x hx => hwt x (by simp [DataW.weightsEach, hx])) (ok_agg tm_ok (show tmS 3 = some (.int) from rfl) (hval 2 _ v2 rfl rfl))
  have k3 := h3
  have lt3 : ∀ x ∈ p3, x.block < W.heap.size := by obtain ⟨m, hm⟩ := k3; exact DataW.trod_lt m _ _ _ hm
  obtain ⟨u3, s3, w3⟩ := bridgeV tm_ok h3 (show tmS 3 = some (.int) from rfl) (fun x hx => hwt x (by simp [DataW.weightsEach, hx])) (ok_agg tm_ok (show tmS 3 = some (.int) from rfl) (hval 3 _ v3 rfl rfl))
  have k4 := h4
  have lt4 : ∀ x ∈ p4, x.block < W.heap.size := by obtain ⟨m, hm⟩ := k4; exact DataW.trod_lt m _ _ _ hm
  obtain ⟨u4, s4, w4⟩ := bridgeV tm_ok h4 (show tmS 3 = some (.int) from rfl) (fun x hx => hwt x (by simp [DataW.weightsEach, hx])) (ok_agg tm_ok (show tmS 3 = some (.int) from rfl) (hval 4 _ v4 rfl rfl))
  clear hA0 hval0
  refine (calls_of_SpecP (walk w0 w1 w2 w3 w4) (vs := [v0, v1, v2, v3, v4]) (by simp only [SVrs]; exact ⟨s0, s1, s2, s3, s4, trivial⟩)).mono fun e W' ⟨r, he, hr, bel⟩ => ?_
  subst he
  obtain rfl := ret_true hr
  exact ⟨_, rfl, _, _, _, [], _, [], hW', trodAll_mk1 (shut_bool Try.underlying4 _), (trodAll_cons_mk (Below.trod laidOut (by kernel_rfl) (of_decide_eq_true (by kernel_rfl)) k0 bel lt0) (trodAll_cons_mk (Below.trod laidOut (by kernel_rfl) (of_decide_eq_true (by kernel_rfl)) k1 bel lt1) (trodAll_cons_mk (Below.trod laidOut (by kernel_rfl) (of_decide_eq_true (by kernel_rfl)) k2 bel lt2) (trodAll_cons_mk (Below.trod laidOut (by kernel_rfl) (of_decide_eq_true (by kernel_rfl)) k3 bel lt3) (trodAll_cons_mk (Below.trod laidOut (by kernel_rfl) (of_decide_eq_true (by kernel_rfl)) k4 bel lt4) trodAll_mk0))))), rfl, bel.frame _, fun h => by cases h⟩

theorem proved : Rows.FnExactFindUnitSaid :=
  OpenClaim.holds_of_wide 6 Try.f6 rfl rfl rfl rfl rfl rfl rfl ⟨rfl, rfl, rfl, rfl, rfl⟩ rfl rfl rfl rfl rfl (by kernel_rfl) Try.func6 (by kernel_rfl)
    (of_decide_eq_true (by kernel_rfl)) (by unfold Func.isWrapper; first | (rw [if_pos (by decide +kernel)]; kernel_rfl) | (rw [if_neg (by decide +kernel)]; exact ⟨rfl, rfl⟩))
    (fun os started H enc _ => lifted os started H enc)
#print axioms proved
end Go.Proofs.Ytcdcekoffaaalaa.lFnExactFindUnit

