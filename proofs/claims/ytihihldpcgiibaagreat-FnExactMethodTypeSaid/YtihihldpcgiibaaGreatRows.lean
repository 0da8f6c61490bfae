/-
  NARROWER THAN 'FOR EVERY INPUT', by the rows' own cells (each row's printed sentence says how): FnExactGoalIsKnown: loops · FnExactMethodType: loops · FnExactEqualSolutions: loops · FnExactOverlappingInstances: loops · FnExactCheckInstance: loops · FnExactCoherenceErrors: loops.
  DERIVED. THE GIVEN ROWS OF THIS SEAT. 6 by the template 'for every input the law returns true; each argument reads behind the call as it read before'; 0 by the template 'total and deterministic' (their statements: YtihihldpcgiibaaGreatTotals.lean).
  GIVEN WITH THE SEED: the statements are not yours to turn. If you find one false, say at which input.
  Laid BY PROGRAM, IN A SANDBOX (cutbox-rows.mjs): the forced cells as the released guide's own fill.sh prints them over the translation 53129af0a6c045a7… (all of the seat's roots in one cut). By AI agents, Wed Nov 11 2026. No macro, syntax, notation, axiom, sorry.
-/
import Derived.Test.YtihihldpcgiibaaGreatChecked
import GoSem.Claim
import GoSem.ClaimJoined
import GoSem.ClaimMapViews
import Derived.JoinedTies
import Derived.KernelRfl
namespace Go.Proofs.YtihihldpcgiibaaGreat
/- THE CELL 'sum', in the pinned program and in every row, IS THE sha256 OF THE DUMP (.gsa) THAT YtihihldpcgiibaaGreatProg.lean LOADS. Nothing in Lean hashes anything: it is a label: what it is worth is what the hold of that sum in a sandbox is worth. -/
noncomputable def Tryz.pinned : Pinned := { name := "ytihihldpcgiibaagreat", sum := "53129af0a6c045a76d86f67139992aa338a69c1002f79d64600445569aa7280b", checked := Tryz.checked }
namespace Rows
def none {H : Type} : Left H := { results := [], args := [] }

/-- 'laws.FnExactGoalIsKnown': WHATEVER THE INPUT: true; the input reads as it did. -/
def fnExactGoalIsKnownSpec : ChangeSpec := { name := "fnExactGoalIsKnown", fn := fun _ => fun
  | [d1, d2] => { results := [.lit (.bool true)], args := [d1, d2] }
  | _ => none }
def fnExactGoalIsKnownRow : OpenClaim := { program := "ytihihldpcgiibaagreat", sum := "53129af0a6c045a76d86f67139992aa338a69c1002f79d64600445569aa7280b", func := "loop.example/g00508/laws.FnExactGoalIsKnown", spec := "fnExactGoalIsKnown", unfollowed := true, recurses := true, loops := true, apart := false }
def FnExactGoalIsKnownSaid : Prop := fnExactGoalIsKnownRow.holds Tryz.pinned (OpenSpec.ofChange fnExactGoalIsKnownSpec)

/-- ITS FALSE NEIGHBOUR: 'it returns false'. Refute it at one input. -/
def fnExactGoalIsKnownWrong : ChangeSpec := { name := "fnExactGoalIsKnown", fn := fun _ => fun
  | [d1, d2] => { results := [.lit (.bool false)], args := [d1, d2] }
  | _ => none }
def FnExactGoalIsKnownWrongFalsely : Prop := fnExactGoalIsKnownRow.holds Tryz.pinned (OpenSpec.ofChange fnExactGoalIsKnownWrong)

/-- 'laws.FnExactMethodType': WHATEVER THE INPUT: true; the input reads as it did. -/
def fnExactMethodTypeSpec : ChangeSpec := { name := "fnExactMethodType", fn := fun _ => fun
  | [d1, d2, d3, d4] => { results := [.lit (.bool true)], args := [d1, d2, d3, d4] }
  | _ => none }
def fnExactMethodTypeRow : OpenClaim := { program := "ytihihldpcgiibaagreat", sum := "53129af0a6c045a76d86f67139992aa338a69c1002f79d64600445569aa7280b", func := "loop.example/g00508/laws.FnExactMethodType", spec := "fnExactMethodType", recurses := true, loops := true, apart := false }
def FnExactMethodTypeSaid : Prop := fnExactMethodTypeRow.holds Tryz.pinned (OpenSpec.ofChange fnExactMethodTypeSpec)

/-- ITS FALSE NEIGHBOUR: 'it returns false'. Refute it at one input. -/
def fnExactMethodTypeWrong : ChangeSpec := { name := "fnExactMethodType", fn := fun _ => fun
  | [d1, d2, d3, d4] => { results := [.lit (.bool false)], args := [d1, d2, d3, d4] }
  | _ => none }
def FnExactMethodTypeWrongFalsely : Prop := fnExactMethodTypeRow.holds Tryz.pinned (OpenSpec.ofChange fnExactMethodTypeWrong)

/-- 'laws.FnExactEqualSolutions': WHATEVER THE INPUT: true; the input reads as it did. -/
def fnExactEqualSolutionsSpec : ChangeSpec := { name := "fnExactEqualSolutions", fn := fun _ => fun
  | [d1, d2, d3] => { results := [.lit (.bool true)], args := [d1, d2, d3] }
  | _ => none }
def fnExactEqualSolutionsRow : OpenClaim := { program := "ytihihldpcgiibaagreat", sum := "53129af0a6c045a76d86f67139992aa338a69c1002f79d64600445569aa7280b", func := "loop.example/g00508/laws.FnExactEqualSolutions", spec := "fnExactEqualSolutions", unfollowed := true, recurses := true, loops := true, apart := false }
def FnExactEqualSolutionsSaid : Prop := fnExactEqualSolutionsRow.holds Tryz.pinned (OpenSpec.ofChange fnExactEqualSolutionsSpec)

/-- ITS FALSE NEIGHBOUR: 'it returns false'. Refute it at one input. -/
def fnExactEqualSolutionsWrong : ChangeSpec := { name := "fnExactEqualSolutions", fn := fun _ => fun
  | [d1, d2, d3] => { results := [.lit (.bool false)], args := [d1, d2, d3] }
  | _ => none }
def FnExactEqualSolutionsWrongFalsely : Prop := fnExactEqualSolutionsRow.holds Tryz.pinned (OpenSpec.ofChange fnExactEqualSolutionsWrong)

/-- 'laws.FnExactOverlappingInstances': WHATEVER THE INPUT: true; the input reads as it did. -/
def fnExactOverlappingInstancesSpec : ChangeSpec := { name := "fnExactOverlappingInstances", fn := fun _ => fun
  | [d] => { results := [.lit (.bool true)], args := [d] }
  | _ => none }
def fnExactOverlappingInstancesRow : OpenClaim := { program := "ytihihldpcgiibaagreat", sum := "53129af0a6c045a76d86f67139992aa338a69c1002f79d64600445569aa7280b", func := "loop.example/g00508/laws.FnExactOverlappingInstances", spec := "fnExactOverlappingInstances", unfollowed := true, recurses := true, loops := true, apart := false }
def FnExactOverlappingInstancesSaid : Prop := fnExactOverlappingInstancesRow.holds Tryz.pinned (OpenSpec.ofChange fnExactOverlappingInstancesSpec)

/-- ITS FALSE NEIGHBOUR: 'it returns false'. Refute it at one input. -/
def fnExactOverlappingInstancesWrong : ChangeSpec := { name := "fnExactOverlappingInstances", fn := fun _ => fun
  | [d] => { results := [.lit (.bool false)], args := [d] }
  | _ => none }
def FnExactOverlappingInstancesWrongFalsely : Prop := fnExactOverlappingInstancesRow.holds Tryz.pinned (OpenSpec.ofChange fnExactOverlappingInstancesWrong)

/-- 'laws.FnExactCheckInstance': WHATEVER THE INPUT: true; the input reads as it did. -/
def fnExactCheckInstanceSpec : ChangeSpec := { name := "fnExactCheckInstance", fn := fun _ => fun
  | [d1, d2] => { results := [.lit (.bool true)], args := [d1, d2] }
  | _ => none }
def fnExactCheckInstanceRow : OpenClaim := { program := "ytihihldpcgiibaagreat", sum := "53129af0a6c045a76d86f67139992aa338a69c1002f79d64600445569aa7280b", func := "loop.example/g00508/laws.FnExactCheckInstance", spec := "fnExactCheckInstance", unfollowed := true, recurses := true, loops := true, apart := false }
def FnExactCheckInstanceSaid : Prop := fnExactCheckInstanceRow.holds Tryz.pinned (OpenSpec.ofChange fnExactCheckInstanceSpec)

/-- ITS FALSE NEIGHBOUR: 'it returns false'. Refute it at one input. -/
def fnExactCheckInstanceWrong : ChangeSpec := { name := "fnExactCheckInstance", fn := fun _ => fun
  | [d1, d2] => { results := [.lit (.bool false)], args := [d1, d2] }
  | _ => none }
def FnExactCheckInstanceWrongFalsely : Prop := fnExactCheckInstanceRow.holds Tryz.pinned (OpenSpec.ofChange fnExactCheckInstanceWrong)

/-- 'laws.FnExactCoherenceErrors': WHATEVER THE INPUT: true; the input reads as it did. -/
def fnExactCoherenceErrorsSpec : ChangeSpec := { name := "fnExactCoherenceErrors", fn := fun _ => fun
  | [d] => { results := [.lit (.bool true)], args := [d] }
  | _ => none }
def fnExactCoherenceErrorsRow : OpenClaim := { program := "ytihihldpcgiibaagreat", sum := "53129af0a6c045a76d86f67139992aa338a69c1002f79d64600445569aa7280b", func := "loop.example/g00508/laws.FnExactCoherenceErrors", spec := "fnExactCoherenceErrors", unfollowed := true, recurses := true, loops := true, apart := false }
def FnExactCoherenceErrorsSaid : Prop := fnExactCoherenceErrorsRow.holds Tryz.pinned (OpenSpec.ofChange fnExactCoherenceErrorsSpec)

/-- ITS FALSE NEIGHBOUR: 'it returns false'. Refute it at one input. -/
def fnExactCoherenceErrorsWrong : ChangeSpec := { name := "fnExactCoherenceErrors", fn := fun _ => fun
  | [d] => { results := [.lit (.bool false)], args := [d] }
  | _ => none }
def FnExactCoherenceErrorsWrongFalsely : Prop := fnExactCoherenceErrorsRow.holds Tryz.pinned (OpenSpec.ofChange fnExactCoherenceErrorsWrong)

/- THE SECOND FORM. 'bulk': how many values and letters a reading holds, each counted each time it is reached (what is shared counts as often as it is met; a slice's spare places count too). A statement '..UptoSaid' is the law's where the arguments, and the package variables that the reading takes, are together of bulk at most 1048576: NARROWER than '..Said'. Prove '..Said' where nothing that the law and all that it calls make is longer than what came in: it says more and counts as full. Else prove '..UptoSaid'. A law counts once. -/
mutual
def uptoBulk {H : Type} : DataW H → Nat
  | .lit (.string bytes) => bytes.length + 1
  | .lit _ => 1
  | .nil => 1
  | .ptr d => uptoBulk d + 1
  | .slice elems spare => uptoBulkAll elems + uptoBulkAll spare + 1
  | .agg parts => uptoBulkAll parts + 1
  | .iface _ d => uptoBulk d + 1
  | .map entries => uptoBulkEntries entries + 1
  | .held _ => 1
def uptoBulkAll {H : Type} : List (DataW H) → Nat
  | [] => 0
  | d :: r => uptoBulk d + uptoBulkAll r
def uptoBulkEntries {H : Type} : List (Lit × DataW H) → Nat
  | [] => 0
  | x :: r => uptoBulkEntry x + uptoBulkEntries r
def uptoBulkEntry {H : Type} : Lit × DataW H → Nat
  | (.string bytes, d) => bytes.length + uptoBulk d + 1
  | (_, d) => uptoBulk d + 1
 end
def uptoSmall : (H : Type) → List (DataW H) → Bool := fun _ ds => decide (uptoBulkAll ds ≤ 1048576)
def OpenSpec.upto (s : _root_.Go.ChangeSpec) : _root_.Go.OpenSpec := { _root_.Go.OpenSpec.ofChange s with cond := some uptoSmall }

/-- 'laws.FnExactGoalIsKnown', WHERE WHAT IT READS IS OF BULK AT MOST 1048576: true; the input reads as it did. -/
def fnExactGoalIsKnownUptoRow : OpenClaim := { program := "ytihihldpcgiibaagreat", sum := "53129af0a6c045a76d86f67139992aa338a69c1002f79d64600445569aa7280b", func := "loop.example/g00508/laws.FnExactGoalIsKnown", spec := "fnExactGoalIsKnown", unfollowed := true, recurses := true, loops := true, apart := false, narrowed := true }
def FnExactGoalIsKnownUptoSaid : Prop := fnExactGoalIsKnownUptoRow.holds Tryz.pinned (OpenSpec.upto fnExactGoalIsKnownSpec)

/-- 'laws.FnExactMethodType', WHERE WHAT IT READS IS OF BULK AT MOST 1048576: true; the input reads as it did. -/
def fnExactMethodTypeUptoRow : OpenClaim := { program := "ytihihldpcgiibaagreat", sum := "53129af0a6c045a76d86f67139992aa338a69c1002f79d64600445569aa7280b", func := "loop.example/g00508/laws.FnExactMethodType", spec := "fnExactMethodType", recurses := true, loops := true, apart := false, narrowed := true }
def FnExactMethodTypeUptoSaid : Prop := fnExactMethodTypeUptoRow.holds Tryz.pinned (OpenSpec.upto fnExactMethodTypeSpec)

/-- 'laws.FnExactEqualSolutions', WHERE WHAT IT READS IS OF BULK AT MOST 1048576: true; the input reads as it did. -/
def fnExactEqualSolutionsUptoRow : OpenClaim := { program := "ytihihldpcgiibaagreat", sum := "53129af0a6c045a76d86f67139992aa338a69c1002f79d64600445569aa7280b", func := "loop.example/g00508/laws.FnExactEqualSolutions", spec := "fnExactEqualSolutions", unfollowed := true, recurses := true, loops := true, apart := false, narrowed := true }
def FnExactEqualSolutionsUptoSaid : Prop := fnExactEqualSolutionsUptoRow.holds Tryz.pinned (OpenSpec.upto fnExactEqualSolutionsSpec)

/-- 'laws.FnExactOverlappingInstances', WHERE WHAT IT READS IS OF BULK AT MOST 1048576: true; the input reads as it did. -/
def fnExactOverlappingInstancesUptoRow : OpenClaim := { program := "ytihihldpcgiibaagreat", sum := "53129af0a6c045a76d86f67139992aa338a69c1002f79d64600445569aa7280b", func := "loop.example/g00508/laws.FnExactOverlappingInstances", spec := "fnExactOverlappingInstances", unfollowed := true, recurses := true, loops := true, apart := false, narrowed := true }
def FnExactOverlappingInstancesUptoSaid : Prop := fnExactOverlappingInstancesUptoRow.holds Tryz.pinned (OpenSpec.upto fnExactOverlappingInstancesSpec)

/-- 'laws.FnExactCheckInstance', WHERE WHAT IT READS IS OF BULK AT MOST 1048576: true; the input reads as it did. -/
def fnExactCheckInstanceUptoRow : OpenClaim := { program := "ytihihldpcgiibaagreat", sum := "53129af0a6c045a76d86f67139992aa338a69c1002f79d64600445569aa7280b", func := "loop.example/g00508/laws.FnExactCheckInstance", spec := "fnExactCheckInstance", unfollowed := true, recurses := true, loops := true, apart := false, narrowed := true }
def FnExactCheckInstanceUptoSaid : Prop := fnExactCheckInstanceUptoRow.holds Tryz.pinned (OpenSpec.upto fnExactCheckInstanceSpec)

/-- 'laws.FnExactCoherenceErrors', WHERE WHAT IT READS IS OF BULK AT MOST 1048576: true; the input reads as it did. -/
def fnExactCoherenceErrorsUptoRow : OpenClaim := { program := "ytihihldpcgiibaagreat", sum := "53129af0a6c045a76d86f67139992aa338a69c1002f79d64600445569aa7280b", func := "loop.example/g00508/laws.FnExactCoherenceErrors", spec := "fnExactCoherenceErrors", unfollowed := true, recurses := true, loops := true, apart := false, narrowed := true }
def FnExactCoherenceErrorsUptoSaid : Prop := fnExactCoherenceErrorsUptoRow.holds Tryz.pinned (OpenSpec.upto fnExactCoherenceErrorsSpec)

end Rows
end Go.Proofs.YtihihldpcgiibaaGreat
