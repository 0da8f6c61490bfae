/-
  NARROWER THAN 'FOR EVERY INPUT', by the rows' own cells (each row's printed sentence says how): FnExactFindTable: loops · FnExactFindSpecialization: loops · FnExactEqualUnits: loops · FnExactEqualMonoProgram: loops.
  DERIVED. THE GIVEN ROWS OF THIS SEAT. 4 by the template 'for every input the law returns true; each argument reads behind the call as it read before'; 0 by the template 'total and deterministic' (their statements: YtbhigchfphnkhaaTotals.lean).
  GIVEN WITH THE SEED: the statements are not yours to turn. If you find one false, say at which input.
  Laid BY PROGRAM, IN A SANDBOX (cutbox-rows.mjs): the forced cells as the released guide's own fill.sh prints them over the translation 99ab0c75e36a9c9e… (all of the seat's roots in one cut). By AI agents, Wed Nov 11 2026. No macro, syntax, notation, axiom, sorry.
-/
import Derived.Test.YtbhigchfphnkhaaChecked
import GoSem.Claim
import GoSem.ClaimJoined
import GoSem.ClaimMapViews
import Derived.JoinedTies
import Derived.KernelRfl
namespace Go.Proofs.Ytbhigchfphnkhaa
/- THE CELL 'sum', in the pinned program and in every row, IS THE sha256 OF THE DUMP (.gsa) THAT YtbhigchfphnkhaaProg.lean LOADS. Nothing in Lean hashes anything: it is a label: what it is worth is what the hold of that sum in a sandbox is worth. -/
noncomputable def Try.pinned : Pinned := { name := "ytbhigchfphnkhaa", sum := "99ab0c75e36a9c9eba7dff66161af1c7b86640af96b850a285d824236b8330ef", checked := Try.checked }
namespace Rows
def none {H : Type} : Left H := { results := [], args := [] }

/-- 'laws.FnExactFindTable': WHATEVER THE INPUT: true; the input reads as it did. -/
def fnExactFindTableSpec : ChangeSpec := { name := "fnExactFindTable", fn := fun _ => fun
  | [d1, d2, d3] => { results := [.lit (.bool true)], args := [d1, d2, d3] }
  | _ => none }
def fnExactFindTableRow : OpenClaim := { program := "ytbhigchfphnkhaa", sum := "99ab0c75e36a9c9eba7dff66161af1c7b86640af96b850a285d824236b8330ef", func := "loop.example/g00508/laws.FnExactFindTable", spec := "fnExactFindTable", unfollowed := true, recurses := true, loops := true, apart := false }
def FnExactFindTableSaid : Prop := fnExactFindTableRow.holds Try.pinned (OpenSpec.ofChange fnExactFindTableSpec)

/-- ITS FALSE NEIGHBOUR: 'it returns false'. Refute it at one input. -/
def fnExactFindTableWrong : ChangeSpec := { name := "fnExactFindTable", fn := fun _ => fun
  | [d1, d2, d3] => { results := [.lit (.bool false)], args := [d1, d2, d3] }
  | _ => none }
def FnExactFindTableWrongFalsely : Prop := fnExactFindTableRow.holds Try.pinned (OpenSpec.ofChange fnExactFindTableWrong)

/-- 'laws.FnExactFindSpecialization': WHATEVER THE INPUT: true; the input reads as it did. -/
def fnExactFindSpecializationSpec : ChangeSpec := { name := "fnExactFindSpecialization", fn := fun _ => fun
  | [d1, d2, d3] => { results := [.lit (.bool true)], args := [d1, d2, d3] }
  | _ => none }
def fnExactFindSpecializationRow : OpenClaim := { program := "ytbhigchfphnkhaa", sum := "99ab0c75e36a9c9eba7dff66161af1c7b86640af96b850a285d824236b8330ef", func := "loop.example/g00508/laws.FnExactFindSpecialization", spec := "fnExactFindSpecialization", unfollowed := true, recurses := true, loops := true, apart := false }
def FnExactFindSpecializationSaid : Prop := fnExactFindSpecializationRow.holds Try.pinned (OpenSpec.ofChange fnExactFindSpecializationSpec)

/-- ITS FALSE NEIGHBOUR: 'it returns false'. Refute it at one input. -/
def fnExactFindSpecializationWrong : ChangeSpec := { name := "fnExactFindSpecialization", fn := fun _ => fun
  | [d1, d2, d3] => { results := [.lit (.bool false)], args := [d1, d2, d3] }
  | _ => none }
def FnExactFindSpecializationWrongFalsely : Prop := fnExactFindSpecializationRow.holds Try.pinned (OpenSpec.ofChange fnExactFindSpecializationWrong)

/-- 'laws.FnExactEqualUnits': WHATEVER THE INPUT: true; the input reads as it did. -/
def fnExactEqualUnitsSpec : ChangeSpec := { name := "fnExactEqualUnits", fn := fun _ => fun
  | [d1, d2] => { results := [.lit (.bool true)], args := [d1, d2] }
  | _ => none }
def fnExactEqualUnitsRow : OpenClaim := { program := "ytbhigchfphnkhaa", sum := "99ab0c75e36a9c9eba7dff66161af1c7b86640af96b850a285d824236b8330ef", func := "loop.example/g00508/laws.FnExactEqualUnits", spec := "fnExactEqualUnits", unfollowed := true, recurses := true, loops := true, apart := false }
def FnExactEqualUnitsSaid : Prop := fnExactEqualUnitsRow.holds Try.pinned (OpenSpec.ofChange fnExactEqualUnitsSpec)

/-- ITS FALSE NEIGHBOUR: 'it returns false'. Refute it at one input. -/
def fnExactEqualUnitsWrong : ChangeSpec := { name := "fnExactEqualUnits", fn := fun _ => fun
  | [d1, d2] => { results := [.lit (.bool false)], args := [d1, d2] }
  | _ => none }
def FnExactEqualUnitsWrongFalsely : Prop := fnExactEqualUnitsRow.holds Try.pinned (OpenSpec.ofChange fnExactEqualUnitsWrong)

/-- 'laws.FnExactEqualMonoProgram': WHATEVER THE INPUT: true; the input reads as it did. -/
def fnExactEqualMonoProgramSpec : ChangeSpec := { name := "fnExactEqualMonoProgram", fn := fun _ => fun
  | [d1, d2] => { results := [.lit (.bool true)], args := [d1, d2] }
  | _ => none }
def fnExactEqualMonoProgramRow : OpenClaim := { program := "ytbhigchfphnkhaa", sum := "99ab0c75e36a9c9eba7dff66161af1c7b86640af96b850a285d824236b8330ef", func := "loop.example/g00508/laws.FnExactEqualMonoProgram", spec := "fnExactEqualMonoProgram", unfollowed := true, recurses := true, loops := true, apart := false }
def FnExactEqualMonoProgramSaid : Prop := fnExactEqualMonoProgramRow.holds Try.pinned (OpenSpec.ofChange fnExactEqualMonoProgramSpec)

/-- ITS FALSE NEIGHBOUR: 'it returns false'. Refute it at one input. -/
def fnExactEqualMonoProgramWrong : ChangeSpec := { name := "fnExactEqualMonoProgram", fn := fun _ => fun
  | [d1, d2] => { results := [.lit (.bool false)], args := [d1, d2] }
  | _ => none }
def FnExactEqualMonoProgramWrongFalsely : Prop := fnExactEqualMonoProgramRow.holds Try.pinned (OpenSpec.ofChange fnExactEqualMonoProgramWrong)

/- THE SECOND FORM. 'bulk': how many values and letters a reading holds, each counted each time it is reached (what is shared counts as often as it is met; a slice's spare places count too). A statement '..UptoSaid' is the law's where the arguments, and the package variables that the reading takes, are together of bulk at most 1048576: NARROWER than '..Said'. Prove '..Said' where nothing that the law and all that it calls make is longer than what came in: it says more and counts as full. Else prove '..UptoSaid'. A law counts once. -/
mutual
def uptoBulk {H : Type} : DataW H → Nat
  | .lit (.string bytes) => bytes.length + 1
  | .lit _ => 1
  | .nil => 1
  | .ptr d => uptoBulk d + 1
  | .slice elems spare => uptoBulkAll elems + uptoBulkAll spare + 1
  | .agg parts => uptoBulkAll parts + 1
  | .iface _ d => uptoBulk d + 1
  | .map entries => uptoBulkEntries entries + 1
  | .held _ => 1
def uptoBulkAll {H : Type} : List (DataW H) → Nat
  | [] => 0
  | d :: r => uptoBulk d + uptoBulkAll r
def uptoBulkEntries {H : Type} : List (Lit × DataW H) → Nat
  | [] => 0
  | x :: r => uptoBulkEntry x + uptoBulkEntries r
def uptoBulkEntry {H : Type} : Lit × DataW H → Nat
  | (.string bytes, d) => bytes.length + uptoBulk d + 1
  | (_, d) => uptoBulk d + 1
 end
def uptoSmall : (H : Type) → List (DataW H) → Bool := fun _ ds => decide (uptoBulkAll ds ≤ 1048576)
def OpenSpec.upto (s : _root_.Go.ChangeSpec) : _root_.Go.OpenSpec := { _root_.Go.OpenSpec.ofChange s with cond := some uptoSmall }

/-- 'laws.FnExactFindTable', WHERE WHAT IT READS IS OF BULK AT MOST 1048576: true; the input reads as it did. -/
def fnExactFindTableUptoRow : OpenClaim := { program := "ytbhigchfphnkhaa", sum := "99ab0c75e36a9c9eba7dff66161af1c7b86640af96b850a285d824236b8330ef", func := "loop.example/g00508/laws.FnExactFindTable", spec := "fnExactFindTable", unfollowed := true, recurses := true, loops := true, apart := false, narrowed := true }
def FnExactFindTableUptoSaid : Prop := fnExactFindTableUptoRow.holds Try.pinned (OpenSpec.upto fnExactFindTableSpec)

/-- 'laws.FnExactFindSpecialization', WHERE WHAT IT READS IS OF BULK AT MOST 1048576: true; the input reads as it did. -/
def fnExactFindSpecializationUptoRow : OpenClaim := { program := "ytbhigchfphnkhaa", sum := "99ab0c75e36a9c9eba7dff66161af1c7b86640af96b850a285d824236b8330ef", func := "loop.example/g00508/laws.FnExactFindSpecialization", spec := "fnExactFindSpecialization", unfollowed := true, recurses := true, loops := true, apart := false, narrowed := true }
def FnExactFindSpecializationUptoSaid : Prop := fnExactFindSpecializationUptoRow.holds Try.pinned (OpenSpec.upto fnExactFindSpecializationSpec)

/-- 'laws.FnExactEqualUnits', WHERE WHAT IT READS IS OF BULK AT MOST 1048576: true; the input reads as it did. -/
def fnExactEqualUnitsUptoRow : OpenClaim := { program := "ytbhigchfphnkhaa", sum := "99ab0c75e36a9c9eba7dff66161af1c7b86640af96b850a285d824236b8330ef", func := "loop.example/g00508/laws.FnExactEqualUnits", spec := "fnExactEqualUnits", unfollowed := true, recurses := true, loops := true, apart := false, narrowed := true }
def FnExactEqualUnitsUptoSaid : Prop := fnExactEqualUnitsUptoRow.holds Try.pinned (OpenSpec.upto fnExactEqualUnitsSpec)

/-- 'laws.FnExactEqualMonoProgram', WHERE WHAT IT READS IS OF BULK AT MOST 1048576: true; the input reads as it did. -/
def fnExactEqualMonoProgramUptoRow : OpenClaim := { program := "ytbhigchfphnkhaa", sum := "99ab0c75e36a9c9eba7dff66161af1c7b86640af96b850a285d824236b8330ef", func := "loop.example/g00508/laws.FnExactEqualMonoProgram", spec := "fnExactEqualMonoProgram", unfollowed := true, recurses := true, loops := true, apart := false, narrowed := true }
def FnExactEqualMonoProgramUptoSaid : Prop := fnExactEqualMonoProgramUptoRow.holds Try.pinned (OpenSpec.upto fnExactEqualMonoProgramSpec)

end Rows
end Go.Proofs.Ytbhigchfphnkhaa
