/- FormatValue of the program returns what the reference's returns, for all arguments (where they hold together at most 2^20 elements and letters; the law itself asks for no more), leaves its arguments unmodified. -/
import Derived.Test.YthojhakapbfbiaaDoorRows
import Derived.Test.YthojhakapbfbiaaDoorCards
import Derived.Test.YthojhakapbfbiaaDoorTie
import Derived.LaidLaws
import Derived.LaidSub
import Derived.MakeChecks
import Derived.Stop.LaidErr
import Derived.SevenTiedAt
import Derived.Test.YthojhakapbfbiaaDoorFamV
import Derived.Test.YthojhakapbfbiaaDoorFv1
import Derived.WalkKit
import Derived.ProofKit
import Derived.OpenShut
import Derived.ShutString
import Derived.ChangeOld
import Derived.Below
set_option linter.unusedVariables false
set_option linter.unusedSimpArgs false
namespace Go.Proofs.YthojhakapbfbiaaDoor.lFnExactFormatValue
open Go Go.Eng Go.ChangeShapes Go.WideShapes Go.ChangeAt Go.RowKit
open Go.ChangeMaps (open_string shut_string)
open Go.Proofs.YthojhakapbfbiaaDoor

section
attribute [local irreducible] V VO VQ Quiet SpecP
set_option maxHeartbeats 8000000 in
theorem walk {u0 : U} (w0 : wt (.st 27) u0) : SpecP Tryd.prog 4 [.d u0] [.b true] := by
  have hs0 : ∀ l : Int, 0 ≤ l → l ≤ 4611686018427387904 → SpecP Tryd.prog 16 [.d u0, .d (.i .i64 l)] [.i .i64 (if (W u0 : Int) ≤ l then l - W u0 else -1)] := szValue_all w0
  have ht0 : W u0 ≤ 1048576 → SpecP Tryd.prog 18 [.d u0] [u0] := toValue_all w0
  have he0 := eqValue_all w0 w0
  obtain ⟨c0, hspec, himpl⟩ := bothFV w0
  generalize W u0 = m0 at hs0 ht0 hspec himpl
  obtain ⟨e1_0, e1_1, e1_2, e1_3, e1_4, rfl, g1_0, g1_1, g1_2, g1_3, g1_4⟩ := inv_Value w0
  obtain ⟨e2_0, e2_1, e2_2, e2_3, rfl, g2_0, g2_1, g2_2, g2_3⟩ := inv_Dictionary g1_3
  obtain ⟨e3_0, e3_1, rfl, g3_0, g3_1⟩ := inv_InstanceRef g2_1
  refine SpecP_intro Tryd.func4 rfl (by kernel_rfl) rfl fun A _ => ?_
  (first | refine V_seq_region ?_ | refine V_seq (V_seq_region ?_) | refine V_seq_draw tmix (by kernel_rfl) ?_ | refine V_seq (V_seq_draw tmix (by kernel_rfl) ?_) | refine V_region ?_ | refine V_draw tmix (by kernel_rfl) ?_)
  repeat refine VO_d ?_
  (first | refine VO_nil ?_ | refine VQ_nil ?_)
  (first | refine V_seq_region ?_ | refine V_seq (V_seq_region ?_) | refine V_seq_draw tmix (by kernel_rfl) ?_ | refine V_seq (V_seq_draw tmix (by kernel_rfl) ?_) | refine V_region ?_ | refine V_draw tmix (by kernel_rfl) ?_)
  repeat refine VO_d ?_
  (first | refine VO_nil ?_ | refine VQ_nil ?_)
  (first | refine V_seq_region ?_ | refine V_seq (V_seq_region ?_) | refine V_seq_draw tmix (by kernel_rfl) ?_ | refine V_seq (V_seq_draw tmix (by kernel_rfl) ?_) | refine V_region ?_ | refine V_draw tmix (by kernel_rfl) ?_)
  repeat refine VO_d ?_
  (first | refine VO_q (Q_call rfl (hs0 1048576 (by omega) (by omega)) (by (repeat (first | exact trivial | exact rfl | exact ⟨_, rfl⟩ | refine And.intro ?_ ?_)); first | done | fail)) rfl ?_ | refine VQ_q (Q_call rfl (hs0 1048576 (by omega) (by omega)) (by (repeat (first | exact trivial | exact rfl | exact ⟨_, rfl⟩ | refine And.intro ?_ ?_)); first | done | fail)) rfl ?_ | (refine VO_bare rfl rfl rfl rfl ?_; refine VO_q (Q_call rfl (hs0 1048576 (by omega) (by omega)) (by (repeat (first | exact trivial | exact rfl | exact ⟨_, rfl⟩ | refine And.intro ?_ ?_)); first | done | fail)) rfl ?_) | refine VQ_run rfl rfl rfl rfl (Q_call rfl (hs0 1048576 (by omega) (by omega)) (by (repeat (first | exact trivial | exact rfl | exact ⟨_, rfl⟩ | refine And.intro ?_ ?_)); first | done | fail)) rfl ?_)
  repeat refine VO_d ?_
  (first | refine VO_nil ?_ | refine VQ_nil ?_)
  (first | refine V_seq_region ?_ | refine V_seq (V_seq_region ?_) | refine V_seq_draw tmix (by kernel_rfl) ?_ | refine V_seq (V_seq_draw tmix (by kernel_rfl) ?_) | refine V_region ?_ | refine V_draw tmix (by kernel_rfl) ?_)
  repeat refine VO_d ?_
  (first | refine VO_nil ?_ | refine VQ_nil ?_)
  (first | refine V_cond rfl (fun hc => ?_) (fun hc => ?_) | refine V_seq (V_cond rfl (fun hc => ?_) (fun hc => ?_)))
  · skip
    (first | refine V_seq_region ?_ | refine V_seq (V_seq_region ?_) | refine V_seq_draw tmix (by kernel_rfl) ?_ | refine V_seq (V_seq_draw tmix (by kernel_rfl) ?_) | refine V_region ?_ | refine V_draw tmix (by kernel_rfl) ?_)
    repeat refine VO_d ?_
    (first | refine VO_nil ?_ | refine VQ_nil ?_)
    refine V_ret ?_
    exact ⟨trivial, ⟨_, rfl, rfl⟩, trivial⟩
  refine V_skip ?_
  simp only [decide_eq_false_iff_not] at hc
  obtain ⟨e0, c0⟩ := ite_pos hc
  rw [e0]
  clear hc hs0
  have ht0 := ht0 (by omega)
  have hspec := hspec (by omega)
  have himpl := himpl (by omega)
  (first | refine V_seq_region ?_ | refine V_seq (V_seq_region ?_) | refine V_seq_draw tmix (by kernel_rfl) ?_ | refine V_seq (V_seq_draw tmix (by kernel_rfl) ?_) | refine V_region ?_ | refine V_draw tmix (by kernel_rfl) ?_)
  repeat (first | refine VO_d ?_ | refine VQ_d ?_)
  (first | refine VO_q (Q_call rfl ht0 (by (repeat (first | exact trivial | exact rfl | exact ⟨_, rfl⟩ | refine And.intro ?_ ?_)); first | done | fail)) rfl ?_ | refine VQ_q (Q_call rfl ht0 (by (repeat (first | exact trivial | exact rfl | exact ⟨_, rfl⟩ | refine And.intro ?_ ?_)); first | done | fail)) rfl ?_ | (refine VO_bare rfl rfl rfl rfl ?_; refine VO_q (Q_call rfl ht0 (by (repeat (first | exact trivial | exact rfl | exact ⟨_, rfl⟩ | refine And.intro ?_ ?_)); first | done | fail)) rfl ?_) | refine VQ_run rfl rfl rfl rfl (Q_call rfl ht0 (by (repeat (first | exact trivial | exact rfl | exact ⟨_, rfl⟩ | refine And.intro ?_ ?_)); first | done | fail)) rfl ?_)
  repeat (first | refine VO_d ?_ | refine VQ_d ?_)
  (first | refine VO_q (Q_call rfl hspec (by (repeat (first | exact trivial | exact rfl | exact ⟨_, rfl⟩ | refine And.intro ?_ ?_)); first | done | fail)) rfl ?_ | refine VQ_q (Q_call rfl hspec (by (repeat (first | exact trivial | exact rfl | exact ⟨_, rfl⟩ | refine And.intro ?_ ?_)); first | done | fail)) rfl ?_ | (refine VO_bare rfl rfl rfl rfl ?_; refine VO_q (Q_call rfl hspec (by (repeat (first | exact trivial | exact rfl | exact ⟨_, rfl⟩ | refine And.intro ?_ ?_)); first | done | fail)) rfl ?_) | refine VQ_run rfl rfl rfl rfl (Q_call rfl hspec (by (repeat (first | exact trivial | exact rfl | exact ⟨_, rfl⟩ | refine And.intro ?_ ?_)); first | done | fail)) rfl ?_)
  repeat (first | refine VO_d ?_ | refine VQ_d ?_)
  (first | refine VO_nil ?_ | refine VQ_nil ?_)
  (first | refine V_seq_region ?_ | refine V_seq (V_seq_region ?_) | refine V_seq_draw tmix (by kernel_rfl) ?_ | refine V_seq (V_seq_draw tmix (by kernel_rfl) ?_) | refine V_region ?_ | refine V_draw tmix (by kernel_rfl) ?_)
  repeat (first | refine VO_d ?_ | refine VQ_d ?_)
  (first | refine VO_q (Q_call rfl ht0 (by (repeat (first | exact trivial | exact rfl | exact ⟨_, rfl⟩ | refine And.intro ?_ ?_)); first | done | fail)) rfl ?_ | refine VQ_q (Q_call rfl ht0 (by (repeat (first | exact trivial | exact rfl | exact ⟨_, rfl⟩ | refine And.intro ?_ ?_)); first | done | fail)) rfl ?_ | (refine VO_bare rfl rfl rfl rfl ?_; refine VO_q (Q_call rfl ht0 (by (repeat (first | exact trivial | exact rfl | exact ⟨_, rfl⟩ | refine And.intro ?_ ?_)); first | done | fail)) rfl ?_) | refine VQ_run rfl rfl rfl rfl (Q_call rfl ht0 (by (repeat (first | exact trivial | exact rfl | exact ⟨_, rfl⟩ | refine And.intro ?_ ?_)); first | done | fail)) rfl ?_)
  repeat (first | refine VO_d ?_ | refine VQ_d ?_)
  (first | refine VO_nil ?_ | refine VQ_nil ?_)
  (first | refine V_seq_region ?_ | refine V_seq (V_seq_region ?_) | refine V_seq_draw tmix (by kernel_rfl) ?_ | refine V_seq (V_seq_draw tmix (by kernel_rfl) ?_) | refine V_region ?_ | refine V_draw tmix (by kernel_rfl) ?_)
  repeat (first | refine VO_d ?_ | refine VQ_d ?_)
  (first | refine VO_q (Q_call rfl himpl (by (repeat (first | exact trivial | exact rfl | exact ⟨_, rfl⟩ | refine And.intro ?_ ?_)); first | done | fail)) rfl ?_ | refine VQ_q (Q_call rfl himpl (by (repeat (first | exact trivial | exact rfl | exact ⟨_, rfl⟩ | refine And.intro ?_ ?_)); first | done | fail)) rfl ?_ | (refine VO_bare rfl rfl rfl rfl ?_; refine VO_q (Q_call rfl himpl (by (repeat (first | exact trivial | exact rfl | exact ⟨_, rfl⟩ | refine And.intro ?_ ?_)); first | done | fail)) rfl ?_) | refine VQ_run rfl rfl rfl rfl (Q_call rfl himpl (by (repeat (first | exact trivial | exact rfl | exact ⟨_, rfl⟩ | refine And.intro ?_ ?_)); first | done | fail)) rfl ?_)
  repeat (first | refine VO_d ?_ | refine VQ_d ?_)
  (first | refine VO_nil ?_ | refine VQ_nil ?_)
  (first | refine V_seq_region ?_ | refine V_seq (V_seq_region ?_) | refine V_seq_draw tmix (by kernel_rfl) ?_ | refine V_seq (V_seq_draw tmix (by kernel_rfl) ?_) | refine V_region ?_ | refine V_draw tmix (by kernel_rfl) ?_)
  repeat (first | refine VO_d ?_ | refine VQ_d ?_)
  (first | refine VO_nil ?_ | refine VQ_nil ?_)
  (first | refine V_cond rfl (fun hc => ?_) (fun hc => ?_) | refine V_seq (V_cond rfl (fun hc => ?_) (fun hc => ?_)))
  · simp at hc
  refine V_skip ?_
  clear hc
  (first | refine V_seq_region ?_ | refine V_seq (V_seq_region ?_) | refine V_seq_draw tmix (by kernel_rfl) ?_ | refine V_seq (V_seq_draw tmix (by kernel_rfl) ?_) | refine V_region ?_ | refine V_draw tmix (by kernel_rfl) ?_)
  repeat (first | refine VO_d ?_ | refine VQ_d ?_)
  (first | refine VO_q (Q_call rfl ht0 (by (repeat (first | exact trivial | exact rfl | exact ⟨_, rfl⟩ | refine And.intro ?_ ?_)); first | done | fail)) rfl ?_ | refine VQ_q (Q_call rfl ht0 (by (repeat (first | exact trivial | exact rfl | exact ⟨_, rfl⟩ | refine And.intro ?_ ?_)); first | done | fail)) rfl ?_ | (refine VO_bare rfl rfl rfl rfl ?_; refine VO_q (Q_call rfl ht0 (by (repeat (first | exact trivial | exact rfl | exact ⟨_, rfl⟩ | refine And.intro ?_ ?_)); first | done | fail)) rfl ?_) | refine VQ_run rfl rfl rfl rfl (Q_call rfl ht0 (by (repeat (first | exact trivial | exact rfl | exact ⟨_, rfl⟩ | refine And.intro ?_ ?_)); first | done | fail)) rfl ?_)
  repeat (first | refine VO_d ?_ | refine VQ_d ?_)
  (first | refine VO_q (Q_call rfl he0 (by (repeat (first | exact trivial | exact rfl | exact ⟨_, rfl⟩ | refine And.intro ?_ ?_)); first | done | fail)) rfl ?_ | refine VQ_q (Q_call rfl he0 (by (repeat (first | exact trivial | exact rfl | exact ⟨_, rfl⟩ | refine And.intro ?_ ?_)); first | done | fail)) rfl ?_ | (refine VO_bare rfl rfl rfl rfl ?_; refine VO_q (Q_call rfl he0 (by (repeat (first | exact trivial | exact rfl | exact ⟨_, rfl⟩ | refine And.intro ?_ ?_)); first | done | fail)) rfl ?_) | refine VQ_run rfl rfl rfl rfl (Q_call rfl he0 (by (repeat (first | exact trivial | exact rfl | exact ⟨_, rfl⟩ | refine And.intro ?_ ?_)); first | done | fail)) rfl ?_)
  repeat (first | refine VO_d ?_ | refine VQ_d ?_)
  (first | refine VO_nil ?_ | refine VQ_nil ?_)
  (first | refine V_cond rfl (fun hc => ?_) (fun hc => ?_) | refine V_seq (V_cond rfl (fun hc => ?_) (fun hc => ?_)))
  · rw [deq_self] at hc; cases hc
  refine V_skip ?_
  clear hc
  (first | refine V_seq_region ?_ | refine V_seq (V_seq_region ?_) | refine V_seq_draw tmix (by kernel_rfl) ?_ | refine V_seq (V_seq_draw tmix (by kernel_rfl) ?_) | refine V_region ?_ | refine V_draw tmix (by kernel_rfl) ?_)
  repeat refine VO_d ?_
  (first | refine VO_nil ?_ | refine VQ_nil ?_)
  refine V_ret ?_
  exact ⟨trivial, ⟨_, rfl, rfl⟩, trivial⟩
end

theorem own : ownKnob Tryd.prog.godebug = none := by kernel_rfl
theorem laidOut : laidOutB Tryd.prog = true := by kernel_rfl

/-- What a table's cells hold. -/
def tabCells (d : DataW Unit) : Array Value := match d with
  | .agg l => (l.map fun x => match x with | .lit (.int k z) => Value.int k z | _ => Value.bool false).toArray
  | _ => #[]
def putTab (d : DataW Unit) : Obj → Obj
  | .cells _ t frozen => .cells (tabCells d) t frozen
  | o => o
noncomputable def laidWorld (os : Os) : World :=
  { World.holding Tryd.prog os ⟨#[], #[], []⟩ with heap := (((World.holding Tryd.prog os ⟨#[], #[], []⟩).heap.modify 0 (putTab Rows.laid_internal_strconv_uint64pow10)).modify 2 (putTab Rows.laid_math_bits_deBruijn32tab)).modify 3 (putTab Rows.laid_math_bits_deBruijn64tab) }
theorem laid_plain (W : World) : laidMetH Tryd.prog Rows.fnExactFormatValueRow.laid W = laidMet Tryd.prog Rows.fnExactFormatValueRow.laid W := MakeChecks.laidMetH_plain _ _ _ (by kernel_rfl)
theorem laidWorld_met (os : Os) (args : Array Value) : laidMetH Tryd.prog Rows.fnExactFormatValueRow.laid ((laidWorld os).forCall (fun _ _ => 0) ⟨#[], args, []⟩).memory := by
  rw [laid_plain]
  exact laidMet_of_run' 8 (by kernel_rfl) (by kernel_rfl)
theorem tab_eq : (Rows.laid_internal_strconv_uint64pow10 : DataW Unit) = Lib.tabData .u64 Lib.pow10Tab := by kernel_rfl
theorem gok {W : World} (h : laidMetH Tryd.prog Rows.fnExactFormatValueRow.laid W) : Gok (fun _ => False) W := by
  rw [laid_plain] at h
  have h2 := h.tail.tail
  rw [tab_eq] at h2
  have h3 : Lib.TabIs Tryd.prog W "internal/strconv.uint64pow10" .u64 Lib.pow10Tab := Lib.tabIs_of_head (g := 0) (by kernel_rfl) (by kernel_rfl) (by kernel_rfl : Tryd.prog.underlying 179 = some (.array 20 169)) (by kernel_rfl) (by kernel_rfl) (by kernel_rfl) h2
  refine ⟨h3, ?_, fun h => h⟩
  have h4 := h3.cell (g := 0) (by kernel_rfl) 0 (by decide)
  unfold World.cell? at h4
  by_cases hz : 0 < W.heap.size
  · exact hz
  · rw [Array.getElem?_eq_none (by simp only; omega)] at h4
    cases h4
set_option maxRecDepth 100000 in
theorem lifted (os : Os) (started : os.Started) (H : Type) (enc : TypeId × Value → H) :
    ReturnsInHanded {} Tryd.checked os 4 .any (fun w args => (Rows.fnExactFormatValueSpec.pre enc Tryd.prog Tryd.f4 [] false w args ∧ laidMetH Tryd.prog Rows.fnExactFormatValueRow.laid w) ∧ sizedMet enc Tryd.prog Tryd.f4 (OpenSpec.ofChange Rows.fnExactFormatValueSpec) false w args) (Rows.fnExactFormatValueSpec.post enc Tryd.prog Tryd.f4 false true false false) := by
  refine returnsInHanded_of_change_and (C := Tryd.checked) (X := fun w _ => laidMetH Tryd.prog Rows.fnExactFormatValueRow.laid w) (fun _ _ _ hh h => h.of_heap hh) own started (by kernel_rfl) Tryd.func4
    (ChangeSpec.witness_at (enc := enc) (C := Tryd.checked) (os := os) (X := fun w _ => laidMetH Tryd.prog Rows.fnExactFormatValueRow.laid w) false (laidWorld os) #[.agg #[.int .i64 0, .int .i64 0, .string ByteArray.empty, .int .i64 0, .int .i64 0, .int .i64 0, .slice none 0 0, .slice none 0 0, .slice none 0 0]] 8 rfl (by kernel_rfl) (by kernel_rfl) (by kernel_rfl) (by kernel_rfl) (by kernel_rfl) (laidWorld_met os _)) ?_
  intro W base args ds gs before hval0 hW hcnd hsz hL _
  have hval : ∀ (j : Nat) t v, Tryd.f4.params[j]? = some t → args[j]? = some v → Value.okWide Tryd.prog W .any base t v := hval0
  have hW' := hW
  obtain ⟨p, q, hA0, hV, rfl, hfz, hnd⟩ := hW
  have hA : DataW.TrodAll enc Tryd.prog W 0 (fun _ => true) true Tryd.f4.params.toList args.toList ds p := hA0
  rw [Tryd.params4] at hA hval
  obtain ⟨v0, vs0, d0, ds0, p0, q0, hargs, rfl, rfl, h0, r0⟩ := trodAll_cons hA
  obtain ⟨rfl, rfl, rfl⟩ := trodAll_nil r0
  obtain rfl : args = #[v0] := by cases args; simp_all
  obtain ⟨rfl, rfl⟩ := trodVars_none hV
  have hwt : ∀ x ∈ DataW.weightsEach Tryd.prog (Tryd.f4.params.toList ++ Rows.fnExactFormatValueSpec.plain.varTypes Tryd.prog) ([d0] ++ []), x ≤ reachBytes := by
    intro x hx
    have := List.all_eq_true.1 hsz x hx
    simpa using this
  rw [Tryd.params4] at hwt
  have k0 := h0
  have lt0 : ∀ x ∈ p0, x.block < W.heap.size := by obtain ⟨m, hm⟩ := k0; exact DataW.trod_lt m _ _ _ hm
  obtain ⟨u0, s0, w0⟩ := bridgeV tm_ok h0 (show tmS 52 = some (.st 27) from rfl) (fun x hx => hwt x (by simp [DataW.weightsEach, hx])) (ok_agg tm_ok (show tmS 52 = some (.st 27) from rfl) (hval 0 _ v0 rfl rfl))
  clear hA0 hval0
  refine (calls_of_SpecP (walk w0) (vs := [v0]) (by simp only [SVrs]; exact ⟨s0, trivial⟩) (gok hL)).mono fun e W' ⟨r, he, hr, bel⟩ => ?_
  subst he
  obtain rfl := ret_true hr
  exact ⟨_, rfl, _, _, _, [], _, [], hW', trodAll_mk1 (shut_bool Tryd.underlying4 _), (trodAll_cons_mk (Below.trod laidOut (by kernel_rfl) (of_decide_eq_true (by kernel_rfl)) k0 bel lt0) trodAll_mk0), rfl, bel.frame _, fun h => by cases h⟩

theorem row_holds : Rows.FnExactFormatValueSaid :=
  OpenClaim.holds_of_wide 4 Tryd.f4 rfl rfl rfl rfl rfl rfl rfl ⟨rfl, rfl, rfl, rfl, rfl⟩ rfl rfl rfl rfl rfl (by kernel_rfl) Tryd.func4 (by kernel_rfl)
    (of_decide_eq_true (by kernel_rfl)) (by unfold Func.isWrapper; first | (rw [if_pos (by decide +kernel)]; kernel_rfl) | (rw [if_neg (by decide +kernel)]; exact ⟨rfl, rfl⟩))
    (fun os started H enc _ => lifted os started H enc)
set_option maxRecDepth 100000 in
theorem proved : Rows.FnExactFormatValueCardSaid :=
  Claim7.holds_tied_plain_at .later [] [.data, .data, .data] true Rows.fnExactFormatValueCard.stood.harness false
    row_holds (fun _ h => by cases h) (by kernel_rfl) (fun _ h => by cases h) fnExactFormatValue_row_tie rfl ⟨rfl, rfl⟩ (by kernel_rfl) rfl
    (fun f fn hf hfn => by
      obtain rfl : f = 4 := Option.some.inj ((show Tryd.prog.funcNamed "loop.example/g00508/laws.FnExactFormatValue" = some 4 by kernel_rfl).symm.trans hf) |>.symm
      obtain rfl : fn = Tryd.f4 := (Option.some.inj (Tryd.func4.symm.trans hfn)).symm
      exact ⟨by kernel_rfl, fun j t ht => by
        rw [Tryd.params4] at ht
        have hall : (#[52] : Array TypeId).all (fun t => !Tryd.prog.wantsStandIn t) = true := by kernel_rfl
        have := Array.all_eq_true_iff_forall_mem.1 hall t (Array.mem_of_getElem? ht)
        exact (by simpa using this : Tryd.prog.wantsStandIn t = false)⟩)
    (by kernel_rfl)
#print axioms proved
end Go.Proofs.YthojhakapbfbiaaDoor.lFnExactFormatValue

