/- HasInferenceVariable of the program returns what the reference's returns, for all arguments (where they hold together at most 2^20 elements and letters; the law itself asks for no more), leaves its arguments unmodified. -/
import Derived.Test.YtbloknibekeedaaRows
import Derived.Test.YtbloknibekeedaaFamT
import Derived.Test.YtbloknibekeedaaHiv
import Derived.WalkKit
import Derived.ProofKit
import Derived.OpenShut
import Derived.ShutString
import Derived.ChangeOld
import Derived.Below
set_option linter.unusedVariables false
set_option linter.unusedSimpArgs false
namespace Go.Proofs.Ytbloknibekeedaa.lFnExactHasInferenceVariable
open Go Go.Eng Go.ChangeShapes Go.WideShapes Go.ChangeAt Go.RowKit
open Go.ChangeMaps (open_string shut_string)
open Go.Proofs.Ytbloknibekeedaa

section
attribute [local irreducible] V VO VQ Quiet SpecP
set_option maxHeartbeats 8000000 in
theorem walk {u0 : U} (w0 : wt (.st 1) u0) : SpecP Try.prog 3 [.d u0] [.b true] := by
  have hs0 : ∀ l : Int, 0 ≤ l → l ≤ 4611686018427387904 → SpecP Try.prog 8 [.d u0, .d (.i .i64 l)] [.i .i64 (if (W u0 : Int) ≤ l then l - W u0 else -1)] := szType_all w0
  have ht0 : W u0 ≤ 1048576 → SpecP Try.prog 10 [.d u0] [u0] := toType_all w0
  have he0 := eqType_all w0 w0
  obtain ⟨c0, hspec, himpl⟩ := bothHIV w0
  generalize W u0 = m0 at hs0 ht0 hspec himpl
  obtain ⟨e1_0, e1_1, e1_2, rfl, g1_0, g1_1, g1_2⟩ := inv_Type w0
  refine SpecP_intro Try.func3 rfl (by kernel_rfl) rfl fun A => ?_
  (first | refine V_seq_region ?_ | refine V_seq (V_seq_region ?_) | refine V_seq_draw tmix (by kernel_rfl) ?_ | refine V_seq (V_seq_draw tmix (by kernel_rfl) ?_) | refine V_region ?_ | refine V_draw tmix (by kernel_rfl) ?_)
  repeat refine VO_d ?_
  (first | refine VO_nil ?_ | refine VQ_nil ?_)
  (first | refine V_seq_region ?_ | refine V_seq (V_seq_region ?_) | refine V_seq_draw tmix (by kernel_rfl) ?_ | refine V_seq (V_seq_draw tmix (by kernel_rfl) ?_) | refine V_region ?_ | refine V_draw tmix (by kernel_rfl) ?_)
  repeat refine VO_d ?_
  (first | refine VO_nil ?_ | refine VQ_nil ?_)
  (first | refine V_seq_region ?_ | refine V_seq (V_seq_region ?_) | refine V_seq_draw tmix (by kernel_rfl) ?_ | refine V_seq (V_seq_draw tmix (by kernel_rfl) ?_) | refine V_region ?_ | refine V_draw tmix (by kernel_rfl) ?_)
  repeat refine VO_d ?_
  (first | refine VO_q (Q_call rfl (hs0 1048576 (by omega) (by omega)) (by (repeat (first | exact trivial | exact rfl | exact ⟨_, rfl⟩ | refine And.intro ?_ ?_)); first | done | fail)) rfl ?_ | refine VQ_q (Q_call rfl (hs0 1048576 (by omega) (by omega)) (by (repeat (first | exact trivial | exact rfl | exact ⟨_, rfl⟩ | refine And.intro ?_ ?_)); first | done | fail)) rfl ?_ | (refine VO_bare rfl rfl rfl rfl ?_; refine VO_q (Q_call rfl (hs0 1048576 (by omega) (by omega)) (by (repeat (first | exact trivial | exact rfl | exact ⟨_, rfl⟩ | refine And.intro ?_ ?_)); first | done | fail)) rfl ?_) | refine VQ_run rfl rfl rfl rfl (Q_call rfl (hs0 1048576 (by omega) (by omega)) (by (repeat (first | exact trivial | exact rfl | exact ⟨_, rfl⟩ | refine And.intro ?_ ?_)); first | done | fail)) rfl ?_)
  repeat refine VO_d ?_
  (first | refine VO_nil ?_ | refine VQ_nil ?_)
  (first | refine V_seq_region ?_ | refine V_seq (V_seq_region ?_) | refine V_seq_draw tmix (by kernel_rfl) ?_ | refine V_seq (V_seq_draw tmix (by kernel_rfl) ?_) | refine V_region ?_ | refine V_draw tmix (by kernel_rfl) ?_)
  repeat refine VO_d ?_
  (first | refine VO_nil ?_ | refine VQ_nil ?_)
  (first | refine V_cond rfl (fun hc => ?_) (fun hc => ?_) | refine V_seq (V_cond rfl (fun hc => ?_) (fun hc => ?_)))
  · skip
    (first | refine V_seq_region ?_ | refine V_seq (V_seq_region ?_) | refine V_seq_draw tmix (by kernel_rfl) ?_ | refine V_seq (V_seq_draw tmix (by kernel_rfl) ?_) | refine V_region ?_ | refine V_draw tmix (by kernel_rfl) ?_)
    repeat refine VO_d ?_
    (first | refine VO_nil ?_ | refine VQ_nil ?_)
    refine V_ret ?_
    exact ⟨trivial, ⟨_, rfl, rfl⟩, trivial⟩
  refine V_skip ?_
  simp only [decide_eq_false_iff_not] at hc
  obtain ⟨e0, c0⟩ := ite_pos hc
  rw [e0]
  clear hc hs0
  have ht0 := ht0 (by omega)
  have hspec := hspec (by omega)
  have himpl := himpl (by omega)
  (first | refine V_seq_region ?_ | refine V_seq (V_seq_region ?_) | refine V_seq_draw tmix (by kernel_rfl) ?_ | refine V_seq (V_seq_draw tmix (by kernel_rfl) ?_) | refine V_region ?_ | refine V_draw tmix (by kernel_rfl) ?_)
  repeat (first | refine VO_d ?_ | refine VQ_d ?_)
  (first | refine VO_q (Q_call rfl ht0 (by (repeat (first | exact trivial | exact rfl | exact ⟨_, rfl⟩ | refine And.intro ?_ ?_)); first | done | fail)) rfl ?_ | refine VQ_q (Q_call rfl ht0 (by (repeat (first | exact trivial | exact rfl | exact ⟨_, rfl⟩ | refine And.intro ?_ ?_)); first | done | fail)) rfl ?_ | (refine VO_bare rfl rfl rfl rfl ?_; refine VO_q (Q_call rfl ht0 (by (repeat (first | exact trivial | exact rfl | exact ⟨_, rfl⟩ | refine And.intro ?_ ?_)); first | done | fail)) rfl ?_) | refine VQ_run rfl rfl rfl rfl (Q_call rfl ht0 (by (repeat (first | exact trivial | exact rfl | exact ⟨_, rfl⟩ | refine And.intro ?_ ?_)); first | done | fail)) rfl ?_)
  repeat (first | refine VO_d ?_ | refine VQ_d ?_)
  (first | refine VO_q (Q_call rfl hspec (by (repeat (first | exact trivial | exact rfl | exact ⟨_, rfl⟩ | refine And.intro ?_ ?_)); first | done | fail)) rfl ?_ | refine VQ_q (Q_call rfl hspec (by (repeat (first | exact trivial | exact rfl | exact ⟨_, rfl⟩ | refine And.intro ?_ ?_)); first | done | fail)) rfl ?_ | (refine VO_bare rfl rfl rfl rfl ?_; refine VO_q (Q_call rfl hspec (by (repeat (first | exact trivial | exact rfl | exact ⟨_, rfl⟩ | refine And.intro ?_ ?_)); first | done | fail)) rfl ?_) | refine VQ_run rfl rfl rfl rfl (Q_call rfl hspec (by (repeat (first | exact trivial | exact rfl | exact ⟨_, rfl⟩ | refine And.intro ?_ ?_)); first | done | fail)) rfl ?_)
  repeat (first | refine VO_d ?_ | refine VQ_d ?_)
  (first | refine VO_nil ?_ | refine VQ_nil ?_)
  (first | refine V_seq_region ?_ | refine V_seq (V_seq_region ?_) | refine V_seq_draw tmix (by kernel_rfl) ?_ | refine V_seq (V_seq_draw tmix (by kernel_rfl) ?_) | refine V_region ?_ | refine V_draw tmix (by kernel_rfl) ?_)
  repeat (first | refine VO_d ?_ | refine VQ_d ?_)
  (first | refine VO_q (Q_call rfl ht0 (by (repeat (first | exact trivial | exact rfl | exact ⟨_, rfl⟩ | refine And.intro ?_ ?_)); first | done | fail)) rfl ?_ | refine VQ_q (Q_call rfl ht0 (by (repeat (first | exact trivial | exact rfl | exact ⟨_, rfl⟩ | refine And.intro ?_ ?_)); first | done | fail)) rfl ?_ | (refine VO_bare rfl rfl rfl rfl ?_; refine VO_q (Q_call rfl ht0 (by (repeat (first | exact trivial | exact rfl | exact ⟨_, rfl⟩ | refine And.intro ?_ ?_)); first | done | fail)) rfl ?_) | refine VQ_run rfl rfl rfl rfl (Q_call rfl ht0 (by (repeat (first | exact trivial | exact rfl | exact ⟨_, rfl⟩ | refine And.intro ?_ ?_)); first | done | fail)) rfl ?_)
  repeat (first | refine VO_d ?_ | refine VQ_d ?_)
  (first | refine VO_nil ?_ | refine VQ_nil ?_)
  (first | refine V_seq_region ?_ | refine V_seq (V_seq_region ?_) | refine V_seq_draw tmix (by kernel_rfl) ?_ | refine V_seq (V_seq_draw tmix (by kernel_rfl) ?_) | refine V_region ?_ | refine V_draw tmix (by kernel_rfl) ?_)
  repeat (first | refine VO_d ?_ | refine VQ_d ?_)
  (first | refine VO_q (Q_call rfl himpl (by (repeat (first | exact trivial | exact rfl | exact ⟨_, rfl⟩ | refine And.intro ?_ ?_)); first | done | fail)) rfl ?_ | refine VQ_q (Q_call rfl himpl (by (repeat (first | exact trivial | exact rfl | exact ⟨_, rfl⟩ | refine And.intro ?_ ?_)); first | done | fail)) rfl ?_ | (refine VO_bare rfl rfl rfl rfl ?_; refine VO_q (Q_call rfl himpl (by (repeat (first | exact trivial | exact rfl | exact ⟨_, rfl⟩ | refine And.intro ?_ ?_)); first | done | fail)) rfl ?_) | refine VQ_run rfl rfl rfl rfl (Q_call rfl himpl (by (repeat (first | exact trivial | exact rfl | exact ⟨_, rfl⟩ | refine And.intro ?_ ?_)); first | done | fail)) rfl ?_)
  repeat (first | refine VO_d ?_ | refine VQ_d ?_)
  (first | refine VO_nil ?_ | refine VQ_nil ?_)
  (first | refine V_seq_region ?_ | refine V_seq (V_seq_region ?_) | refine V_seq_draw tmix (by kernel_rfl) ?_ | refine V_seq (V_seq_draw tmix (by kernel_rfl) ?_) | refine V_region ?_ | refine V_draw tmix (by kernel_rfl) ?_)
  repeat (first | refine VO_d ?_ | refine VQ_d ?_)
  (first | refine VO_nil ?_ | refine VQ_nil ?_)
  (first | refine V_cond rfl (fun hc => ?_) (fun hc => ?_) | refine V_seq (V_cond rfl (fun hc => ?_) (fun hc => ?_)))
  · simp at hc
  refine V_skip ?_
  clear hc
  (first | refine V_seq_region ?_ | refine V_seq (V_seq_region ?_) | refine V_seq_draw tmix (by kernel_rfl) ?_ | refine V_seq (V_seq_draw tmix (by kernel_rfl) ?_) | refine V_region ?_ | refine V_draw tmix (by kernel_rfl) ?_)
  repeat (first | refine VO_d ?_ | refine VQ_d ?_)
  (first | refine VO_q (Q_call rfl ht0 (by (repeat (first | exact trivial | exact rfl | exact ⟨_, rfl⟩ | refine And.intro ?_ ?_)); first | done | fail)) rfl ?_ | refine VQ_q (Q_call rfl ht0 (by (repeat (first | exact trivial | exact rfl | exact ⟨_, rfl⟩ | refine And.intro ?_ ?_)); first | done | fail)) rfl ?_ | (refine VO_bare rfl rfl rfl rfl ?_; refine VO_q (Q_call rfl ht0 (by (repeat (first | exact trivial | exact rfl | exact ⟨_, rfl⟩ | refine And.intro ?_ ?_)); first | done | fail)) rfl ?_) | refine VQ_run rfl rfl rfl rfl (Q_call rfl ht0 (by (repeat (first | exact trivial | exact rfl | exact ⟨_, rfl⟩ | refine And.intro ?_ ?_)); first | done | fail)) rfl ?_)
  repeat (first | refine VO_d ?_ | refine VQ_d ?_)
  (first | refine VO_q (Q_call rfl he0 (by (repeat (first | exact trivial | exact rfl | exact ⟨_, rfl⟩ | refine And.intro ?_ ?_)); first | done | fail)) rfl ?_ | refine VQ_q (Q_call rfl he0 (by (repeat (first | exact trivial | exact rfl | exact ⟨_, rfl⟩ | refine And.intro ?_ ?_)); first | done | fail)) rfl ?_ | (refine VO_bare rfl rfl rfl rfl ?_; refine VO_q (Q_call rfl he0 (by (repeat (first | exact trivial | exact rfl | exact ⟨_, rfl⟩ | refine And.intro ?_ ?_)); first | done | fail)) rfl ?_) | refine VQ_run rfl rfl rfl rfl (Q_call rfl he0 (by (repeat (first | exact trivial | exact rfl | exact ⟨_, rfl⟩ | refine And.intro ?_ ?_)); first | done | fail)) rfl ?_)
  repeat (first | refine VO_d ?_ | refine VQ_d ?_)
  (first | refine VO_nil ?_ | refine VQ_nil ?_)
  (first | refine V_cond rfl (fun hc => ?_) (fun hc => ?_) | refine V_seq (V_cond rfl (fun hc => ?_) (fun hc => ?_)))
  · rw [deq_self] at hc; cases hc
  refine V_skip ?_
  clear hc
  (first | refine V_seq_region ?_ | refine V_seq (V_seq_region ?_) | refine V_seq_draw tmix (by kernel_rfl) ?_ | refine V_seq (V_seq_draw tmix (by kernel_rfl) ?_) | refine V_region ?_ | refine V_draw tmix (by kernel_rfl) ?_)
  repeat refine VO_d ?_
  (first | refine VO_nil ?_ | refine VQ_nil ?_)
  refine V_ret ?_
  exact ⟨trivial, ⟨_, rfl, rfl⟩, trivial⟩
end

theorem own : ownKnob Try.prog.godebug = none := by kernel_rfl
theorem laidOut : laidOutB Try.prog = true := by kernel_rfl

set_option maxRecDepth 100000 in
theorem lifted (os : Os) (started : os.Started) (H : Type) (enc : TypeId × Value → H) :
    ReturnsInHanded {} Try.checked os 3 .any (Rows.fnExactHasInferenceVariableSpec.pre6 enc Try.prog Try.f3 Rows.fnExactHasInferenceVariableRow.domain false) (Rows.fnExactHasInferenceVariableSpec.post enc Try.prog Try.f3 false true false false) := by
  refine returnsInHanded_of_change_sized (C := Try.checked) own started (by kernel_rfl) Try.func3
    (ChangeSpec.witness6 (enc := enc) (C := Try.checked) false ⟨#[], #[.agg #[.int .i64 0, .string ByteArray.empty, .slice none 0 0]], []⟩ 8 (by kernel_rfl) (by kernel_rfl) (by kernel_rfl) (by kernel_rfl)) ?_
  intro W base args ds gs before hval0 hW hcnd hsz _
  have hval : ∀ (j : Nat) t v, Try.f3.params[j]? = some t → args[j]? = some v → Value.okWide Try.prog W .any base t v := hval0
  have hW' := hW
  obtain ⟨p, q, hA0, hV, rfl, hfz, hnd⟩ := hW
  have hA : DataW.TrodAll enc Try.prog W 0 (fun _ => true) true Try.f3.params.toList args.toList ds p := hA0
  rw [Try.params3] at hA hval
  obtain ⟨v0, vs0, d0, ds0, p0, q0, hargs, rfl, rfl, h0, r0⟩ := trodAll_cons hA
  obtain ⟨rfl, rfl, rfl⟩ := trodAll_nil r0
  obtain rfl : args = #[v0] := by cases args; simp_all
  obtain ⟨rfl, rfl⟩ := trodVars_none hV
  have hwt : ∀ x ∈ DataW.weightsEach Try.prog (Try.f3.params.toList ++ Rows.fnExactHasInferenceVariableSpec.plain.varTypes Try.prog) ([d0] ++ []), x ≤ reachBytes := by
    intro x hx
    have := List.all_eq_true.1 hsz x hx
    simpa using this
  rw [Try.params3] at hwt
  have k0 := h0
  have lt0 : ∀ x ∈ p0, x.block < W.heap.size := by obtain ⟨m, hm⟩ := k0; exact DataW.trod_lt m _ _ _ hm
  obtain ⟨u0, s0, w0⟩ := bridgeV tm_ok h0 (show tmS 24 = some (.st 1) from rfl) (fun x hx => hwt x (by simp [DataW.weightsEach, hx])) (ok_agg tm_ok (show tmS 24 = some (.st 1) from rfl) (hval 0 _ v0 rfl rfl))
  clear hA0 hval0
  refine (calls_of_SpecP (walk w0) (vs := [v0]) (by simp only [SVrs]; exact ⟨s0, trivial⟩)).mono fun e W' ⟨r, he, hr, bel⟩ => ?_
  subst he
  obtain rfl := ret_true hr
  exact ⟨_, rfl, _, _, _, [], _, [], hW', trodAll_mk1 (shut_bool Try.underlying4 _), (trodAll_cons_mk (Below.trod laidOut (by kernel_rfl) (of_decide_eq_true (by kernel_rfl)) k0 bel lt0) trodAll_mk0), rfl, bel.frame _, fun h => by cases h⟩

theorem proved : Rows.FnExactHasInferenceVariableSaid :=
  OpenClaim.holds_of_wide 3 Try.f3 rfl rfl rfl rfl rfl rfl rfl ⟨rfl, rfl, rfl, rfl, rfl⟩ rfl rfl rfl rfl rfl (by kernel_rfl) Try.func3 (by kernel_rfl)
    (of_decide_eq_true (by kernel_rfl)) (by unfold Func.isWrapper; first | (rw [if_pos (by decide +kernel)]; kernel_rfl) | (rw [if_neg (by decide +kernel)]; exact ⟨rfl, rfl⟩))
    (fun os started H enc _ => lifted os started H enc)
#print axioms proved
end Go.Proofs.Ytbloknibekeedaa.lFnExactHasInferenceVariable

