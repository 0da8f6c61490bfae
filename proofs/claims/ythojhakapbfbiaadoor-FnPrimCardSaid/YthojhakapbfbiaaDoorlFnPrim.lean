/- FnPrim returns true for every code. -/
import Derived.Test.YthojhakapbfbiaaDoorRows
import Derived.Test.YthojhakapbfbiaaDoorCards
import Derived.Test.YthojhakapbfbiaaDoorTie
import Derived.LaidLaws
import Derived.LaidSub
import Derived.MakeChecks
import Derived.Stop.LaidErr
import Derived.SevenTiedAt
import Derived.Test.YthojhakapbfbiaaDoorPr3
import Derived.Test.YthojhakapbfbiaaDoorCur
import Derived.WalkKit
import Derived.ProofKit
import Derived.OpenShut
import Derived.ShutString
import Derived.ChangeOld
import Derived.Below
set_option linter.unusedVariables false
set_option linter.unusedSimpArgs false
namespace Go.Proofs.YthojhakapbfbiaaDoor.lFnPrim
open Go Go.Eng Go.ChangeShapes Go.WideShapes Go.ChangeAt Go.RowKit
open Go.ChangeMaps (open_string shut_string)
open Go.Proofs.YthojhakapbfbiaaDoor

theorem own : ownKnob Tryd.prog.godebug = none := by kernel_rfl
theorem laidOut : laidOutB Tryd.prog = true := by kernel_rfl

/-- What a table's cells hold. -/
def tabCells (d : DataW Unit) : Array Value := match d with
  | .agg l => (l.map fun x => match x with | .lit (.int k z) => Value.int k z | _ => Value.bool false).toArray
  | _ => #[]
def putTab (d : DataW Unit) : Obj → Obj
  | .cells _ t frozen => .cells (tabCells d) t frozen
  | o => o
noncomputable def laidWorld (os : Os) : World :=
  { World.holding Tryd.prog os ⟨#[], #[], []⟩ with heap := (((World.holding Tryd.prog os ⟨#[], #[], []⟩).heap.modify 0 (putTab Rows.laid_internal_strconv_uint64pow10)).modify 2 (putTab Rows.laid_math_bits_deBruijn32tab)).modify 3 (putTab Rows.laid_math_bits_deBruijn64tab) }
theorem laid_plain (W : World) : laidMetH Tryd.prog Rows.fnPrimRow.laid W = laidMet Tryd.prog Rows.fnPrimRow.laid W := MakeChecks.laidMetH_plain _ _ _ (by kernel_rfl)
theorem laidWorld_met (os : Os) (args : Array Value) : laidMetH Tryd.prog Rows.fnPrimRow.laid ((laidWorld os).forCall (fun _ _ => 0) ⟨#[], args, []⟩).memory := by
  rw [laid_plain]
  exact laidMet_of_run' 8 (by kernel_rfl) (by kernel_rfl)
theorem tab_eq : (Rows.laid_internal_strconv_uint64pow10 : DataW Unit) = Lib.tabData .u64 Lib.pow10Tab := by kernel_rfl
theorem gok {W : World} (h : laidMetH Tryd.prog Rows.fnPrimRow.laid W) : Gok (fun _ => False) W := by
  rw [laid_plain] at h
  have h2 := h.tail.tail
  rw [tab_eq] at h2
  have h3 : Lib.TabIs Tryd.prog W "internal/strconv.uint64pow10" .u64 Lib.pow10Tab := Lib.tabIs_of_head (g := 0) (by kernel_rfl) (by kernel_rfl) (by kernel_rfl : Tryd.prog.underlying 179 = some (.array 20 169)) (by kernel_rfl) (by kernel_rfl) (by kernel_rfl) h2
  refine ⟨h3, ?_, fun h => h⟩
  have h4 := h3.cell (g := 0) (by kernel_rfl) 0 (by decide)
  unfold World.cell? at h4
  by_cases hz : 0 < W.heap.size
  · exact hz
  · rw [Array.getElem?_eq_none (by simp only; omega)] at h4
    cases h4
set_option maxRecDepth 100000 in
theorem lifted (os : Os) (started : os.Started) (H : Type) (enc : TypeId × Value → H) :
    ReturnsInHanded {} Tryd.checked os 5 .any (fun w args => (Rows.fnPrimSpec.pre enc Tryd.prog Tryd.f5 [] false w args ∧ laidMetH Tryd.prog Rows.fnPrimRow.laid w) ∧ sizedMet enc Tryd.prog Tryd.f5 (OpenSpec.ofChange Rows.fnPrimSpec) false w args) (Rows.fnPrimSpec.post enc Tryd.prog Tryd.f5 false true false false) := by
  refine returnsInHanded_of_change_and (C := Tryd.checked) (X := fun w _ => laidMetH Tryd.prog Rows.fnPrimRow.laid w) (fun _ _ _ hh h => h.of_heap hh) own started (by kernel_rfl) Tryd.func5
    (ChangeSpec.witness_at (enc := enc) (C := Tryd.checked) (os := os) (X := fun w _ => laidMetH Tryd.prog Rows.fnPrimRow.laid w) false (laidWorld os) #[.slice none 0 0] 8 rfl (by kernel_rfl) (by kernel_rfl) (by kernel_rfl) (by kernel_rfl) (by kernel_rfl) (laidWorld_met os _)) ?_
  intro W base args ds gs before hval0 hW hcnd hsz hL _
  have hval : ∀ (j : Nat) t v, Tryd.f5.params[j]? = some t → args[j]? = some v → Value.okWide Tryd.prog W .any base t v := hval0
  have hW' := hW
  obtain ⟨p, q, hA0, hV, rfl, hfz, hnd⟩ := hW
  have hA : DataW.TrodAll enc Tryd.prog W 0 (fun _ => true) true Tryd.f5.params.toList args.toList ds p := hA0
  rw [Tryd.params5] at hA hval
  obtain ⟨v0, vs0, d0, ds0, p0, q0, hargs, rfl, rfl, h0, r0⟩ := trodAll_cons hA
  obtain ⟨rfl, rfl, rfl⟩ := trodAll_nil r0
  obtain rfl : args = #[v0] := by cases args; simp_all
  obtain ⟨rfl, rfl⟩ := trodVars_none hV
  have hwt : ∀ x ∈ DataW.weightsEach Tryd.prog (Tryd.f5.params.toList ++ Rows.fnPrimSpec.plain.varTypes Tryd.prog) ([d0] ++ []), x ≤ reachBytes := by
    intro x hx
    have := List.all_eq_true.1 hsz x hx
    simpa using this
  rw [Tryd.params5] at hwt
  have k0 := h0
  have lt0 : ∀ x ∈ p0, x.block < W.heap.size := by obtain ⟨m, hm⟩ := k0; exact DataW.trod_lt m _ _ _ hm
  have hna : ∀ cs, v0 ≠ .agg cs := fun cs hc => by
    subst hc
    have := hval 0 65 _ rfl rfl
    simp [Value.okWide, Cell.okWide, Cell.ok, Tryd.underlying65] at this
  obtain ⟨code, s0⟩ := bridgeB Tryd.underlying65 Tryd.underlying5 (by kernel_rfl) (of_decide_eq_true (by kernel_rfl)) h0 (fun x hx => hwt x (by simp [DataW.weightsEach, hx])) hna
  have hco : code.length ≤ 1048576 → curok (l1NewT code) := fun hl => by
    obtain ⟨_, e1, e2⟩ := l1New_eq code
    exact ⟨by rw [e2]; omega, by rw [e1]; exact hl⟩
  clear hA0 hval0
  refine (calls_of_SpecP (w_FnPrim code (FnPrim_eq code hco)) (vs := [v0]) (by simp only [SVrs]; exact ⟨s0, trivial⟩) (gok hL)).mono fun e W' ⟨r, he, hr, bel⟩ => ?_
  subst he
  obtain rfl := ret_true hr
  exact ⟨_, rfl, _, _, _, [], _, [], hW', trodAll_mk1 (shut_bool Tryd.underlying4 _), (trodAll_cons_mk (Below.trod laidOut (by kernel_rfl) (of_decide_eq_true (by kernel_rfl)) k0 bel lt0) trodAll_mk0), rfl, bel.frame _, fun h => by cases h⟩

theorem row_holds : Rows.FnPrimSaid :=
  OpenClaim.holds_of_wide 5 Tryd.f5 rfl rfl rfl rfl rfl rfl rfl ⟨rfl, rfl, rfl, rfl, rfl⟩ rfl rfl rfl rfl rfl (by kernel_rfl) Tryd.func5 (by kernel_rfl)
    (of_decide_eq_true (by kernel_rfl)) (by unfold Func.isWrapper; first | (rw [if_pos (by decide +kernel)]; kernel_rfl) | (rw [if_neg (by decide +kernel)]; exact ⟨rfl, rfl⟩))
    (fun os started H enc _ => lifted os started H enc)
set_option maxRecDepth 100000 in
theorem proved : Rows.FnPrimCardSaid :=
  Claim7.holds_tied_plain_at .later [] [.data, .data, .data] true Rows.fnPrimCard.stood.harness false
    row_holds (fun _ h => by cases h) (by kernel_rfl) (fun _ h => by cases h) fnPrim_row_tie rfl ⟨rfl, rfl⟩ (by kernel_rfl) rfl
    (fun f fn hf hfn => by
      obtain rfl : f = 5 := Option.some.inj ((show Tryd.prog.funcNamed "loop.example/g00508/laws.FnPrim" = some 5 by kernel_rfl).symm.trans hf) |>.symm
      obtain rfl : fn = Tryd.f5 := (Option.some.inj (Tryd.func5.symm.trans hfn)).symm
      exact ⟨by kernel_rfl, fun j t ht => by
        rw [Tryd.params5] at ht
        have hall : (#[65] : Array TypeId).all (fun t => !Tryd.prog.wantsStandIn t) = true := by kernel_rfl
        have := Array.all_eq_true_iff_forall_mem.1 hall t (Array.mem_of_getElem? ht)
        exact (by simpa using this : Tryd.prog.wantsStandIn t = false)⟩)
    (by kernel_rfl)
#print axioms proved
end Go.Proofs.YthojhakapbfbiaaDoor.lFnPrim

