/-
  NARROWER THAN 'FOR EVERY INPUT', by the rows' own cells (each row's printed sentence says how): FnExactEqualValue: loops · FnExactCoreSize: loops · FnExactEqualCore: loops · FnExactFindUnit: loops.
  DERIVED. THE GIVEN ROWS OF THIS SEAT. 4 by the template 'for every input the law returns true; each argument reads behind the call as it read before'; 0 by the template 'total and deterministic' (their statements: YtcdcekoffaaalaaTotals.lean).
  GIVEN WITH THE SEED: the statements are not yours to turn. If you find one false, say at which input.
  Laid BY PROGRAM, IN A SANDBOX (cutbox-rows.mjs): the forced cells as the released guide's own fill.sh prints them over the translation 988e043642005116… (all of the seat's roots in one cut). By AI agents, Wed Nov 11 2026. No macro, syntax, notation, axiom, sorry.
-/
import Derived.Test.YtcdcekoffaaalaaChecked
import GoSem.Claim
import GoSem.ClaimJoined
import GoSem.ClaimMapViews
import Derived.JoinedTies
import Derived.KernelRfl
namespace Go.Proofs.Ytcdcekoffaaalaa
/- THE CELL 'sum', in the pinned program and in every row, IS THE sha256 OF THE DUMP (.gsa) THAT YtcdcekoffaaalaaProg.lean LOADS. Nothing in Lean hashes anything: it is a label: what it is worth is what the hold of that sum in a sandbox is worth. -/
noncomputable def Try.pinned : Pinned := { name := "ytcdcekoffaaalaa", sum := "988e0436420051162ccecd8c710fdb2ee15808d2cfef503a5bee508a7df50093", checked := Try.checked }
namespace Rows
def none {H : Type} : Left H := { results := [], args := [] }

/-- 'laws.FnExactEqualValue': WHATEVER THE INPUT: true; the input reads as it did. -/
def fnExactEqualValueSpec : ChangeSpec := { name := "fnExactEqualValue", fn := fun _ => fun
  | [d1, d2] => { results := [.lit (.bool true)], args := [d1, d2] }
  | _ => none }
def fnExactEqualValueRow : OpenClaim := { program := "ytcdcekoffaaalaa", sum := "988e0436420051162ccecd8c710fdb2ee15808d2cfef503a5bee508a7df50093", func := "loop.example/g00508/laws.FnExactEqualValue", spec := "fnExactEqualValue", unfollowed := true, recurses := true, loops := true, apart := false }
def FnExactEqualValueSaid : Prop := fnExactEqualValueRow.holds Try.pinned (OpenSpec.ofChange fnExactEqualValueSpec)

/-- ITS FALSE NEIGHBOUR: 'it returns false'. Refute it at one input. -/
def fnExactEqualValueWrong : ChangeSpec := { name := "fnExactEqualValue", fn := fun _ => fun
  | [d1, d2] => { results := [.lit (.bool false)], args := [d1, d2] }
  | _ => none }
def FnExactEqualValueWrongFalsely : Prop := fnExactEqualValueRow.holds Try.pinned (OpenSpec.ofChange fnExactEqualValueWrong)

/-- 'laws.FnExactCoreSize': WHATEVER THE INPUT: true; the input reads as it did. -/
def fnExactCoreSizeSpec : ChangeSpec := { name := "fnExactCoreSize", fn := fun _ => fun
  | [d] => { results := [.lit (.bool true)], args := [d] }
  | _ => none }
def fnExactCoreSizeRow : OpenClaim := { program := "ytcdcekoffaaalaa", sum := "988e0436420051162ccecd8c710fdb2ee15808d2cfef503a5bee508a7df50093", func := "loop.example/g00508/laws.FnExactCoreSize", spec := "fnExactCoreSize", recurses := true, loops := true, apart := false }
def FnExactCoreSizeSaid : Prop := fnExactCoreSizeRow.holds Try.pinned (OpenSpec.ofChange fnExactCoreSizeSpec)

/-- ITS FALSE NEIGHBOUR: 'it returns false'. Refute it at one input. -/
def fnExactCoreSizeWrong : ChangeSpec := { name := "fnExactCoreSize", fn := fun _ => fun
  | [d] => { results := [.lit (.bool false)], args := [d] }
  | _ => none }
def FnExactCoreSizeWrongFalsely : Prop := fnExactCoreSizeRow.holds Try.pinned (OpenSpec.ofChange fnExactCoreSizeWrong)

/-- 'laws.FnExactEqualCore': WHATEVER THE INPUT: true; the input reads as it did. -/
def fnExactEqualCoreSpec : ChangeSpec := { name := "fnExactEqualCore", fn := fun _ => fun
  | [d1, d2] => { results := [.lit (.bool true)], args := [d1, d2] }
  | _ => none }
def fnExactEqualCoreRow : OpenClaim := { program := "ytcdcekoffaaalaa", sum := "988e0436420051162ccecd8c710fdb2ee15808d2cfef503a5bee508a7df50093", func := "loop.example/g00508/laws.FnExactEqualCore", spec := "fnExactEqualCore", unfollowed := true, recurses := true, loops := true, apart := false }
def FnExactEqualCoreSaid : Prop := fnExactEqualCoreRow.holds Try.pinned (OpenSpec.ofChange fnExactEqualCoreSpec)

/-- ITS FALSE NEIGHBOUR: 'it returns false'. Refute it at one input. -/
def fnExactEqualCoreWrong : ChangeSpec := { name := "fnExactEqualCore", fn := fun _ => fun
  | [d1, d2] => { results := [.lit (.bool false)], args := [d1, d2] }
  | _ => none }
def FnExactEqualCoreWrongFalsely : Prop := fnExactEqualCoreRow.holds Try.pinned (OpenSpec.ofChange fnExactEqualCoreWrong)

/-- 'laws.FnExactFindUnit': WHATEVER THE INPUT: true; the input reads as it did. -/
def fnExactFindUnitSpec : ChangeSpec := { name := "fnExactFindUnit", fn := fun _ => fun
  | [d1, d2, d3, d4, d5] => { results := [.lit (.bool true)], args := [d1, d2, d3, d4, d5] }
  | _ => none }
def fnExactFindUnitRow : OpenClaim := { program := "ytcdcekoffaaalaa", sum := "988e0436420051162ccecd8c710fdb2ee15808d2cfef503a5bee508a7df50093", func := "loop.example/g00508/laws.FnExactFindUnit", spec := "fnExactFindUnit", unfollowed := true, recurses := true, loops := true, apart := false }
def FnExactFindUnitSaid : Prop := fnExactFindUnitRow.holds Try.pinned (OpenSpec.ofChange fnExactFindUnitSpec)

/-- ITS FALSE NEIGHBOUR: 'it returns false'. Refute it at one input. -/
def fnExactFindUnitWrong : ChangeSpec := { name := "fnExactFindUnit", fn := fun _ => fun
  | [d1, d2, d3, d4, d5] => { results := [.lit (.bool false)], args := [d1, d2, d3, d4, d5] }
  | _ => none }
def FnExactFindUnitWrongFalsely : Prop := fnExactFindUnitRow.holds Try.pinned (OpenSpec.ofChange fnExactFindUnitWrong)

/- THE SECOND FORM. 'bulk': how many values and letters a reading holds, each counted each time it is reached (what is shared counts as often as it is met; a slice's spare places count too). A statement '..UptoSaid' is the law's where the arguments, and the package variables that the reading takes, are together of bulk at most 1048576: NARROWER than '..Said'. Prove '..Said' where nothing that the law and all that it calls make is longer than what came in: it says more and counts as full. Else prove '..UptoSaid'. A law counts once. -/
mutual
def uptoBulk {H : Type} : DataW H → Nat
  | .lit (.string bytes) => bytes.length + 1
  | .lit _ => 1
  | .nil => 1
  | .ptr d => uptoBulk d + 1
  | .slice elems spare => uptoBulkAll elems + uptoBulkAll spare + 1
  | .agg parts => uptoBulkAll parts + 1
  | .iface _ d => uptoBulk d + 1
  | .map entries => uptoBulkEntries entries + 1
  | .held _ => 1
def uptoBulkAll {H : Type} : List (DataW H) → Nat
  | [] => 0
  | d :: r => uptoBulk d + uptoBulkAll r
def uptoBulkEntries {H : Type} : List (Lit × DataW H) → Nat
  | [] => 0
  | x :: r => uptoBulkEntry x + uptoBulkEntries r
def uptoBulkEntry {H : Type} : Lit × DataW H → Nat
  | (.string bytes, d) => bytes.length + uptoBulk d + 1
  | (_, d) => uptoBulk d + 1
 end
def uptoSmall : (H : Type) → List (DataW H) → Bool := fun _ ds => decide (uptoBulkAll ds ≤ 1048576)
def OpenSpec.upto (s : _root_.Go.ChangeSpec) : _root_.Go.OpenSpec := { _root_.Go.OpenSpec.ofChange s with cond := some uptoSmall }

/-- 'laws.FnExactEqualValue', WHERE WHAT IT READS IS OF BULK AT MOST 1048576: true; the input reads as it did. -/
def fnExactEqualValueUptoRow : OpenClaim := { program := "ytcdcekoffaaalaa", sum := "988e0436420051162ccecd8c710fdb2ee15808d2cfef503a5bee508a7df50093", func := "loop.example/g00508/laws.FnExactEqualValue", spec := "fnExactEqualValue", unfollowed := true, recurses := true, loops := true, apart := false, narrowed := true }
def FnExactEqualValueUptoSaid : Prop := fnExactEqualValueUptoRow.holds Try.pinned (OpenSpec.upto fnExactEqualValueSpec)

/-- 'laws.FnExactCoreSize', WHERE WHAT IT READS IS OF BULK AT MOST 1048576: true; the input reads as it did. -/
def fnExactCoreSizeUptoRow : OpenClaim := { program := "ytcdcekoffaaalaa", sum := "988e0436420051162ccecd8c710fdb2ee15808d2cfef503a5bee508a7df50093", func := "loop.example/g00508/laws.FnExactCoreSize", spec := "fnExactCoreSize", recurses := true, loops := true, apart := false, narrowed := true }
def FnExactCoreSizeUptoSaid : Prop := fnExactCoreSizeUptoRow.holds Try.pinned (OpenSpec.upto fnExactCoreSizeSpec)

/-- 'laws.FnExactEqualCore', WHERE WHAT IT READS IS OF BULK AT MOST 1048576: true; the input reads as it did. -/
def fnExactEqualCoreUptoRow : OpenClaim := { program := "ytcdcekoffaaalaa", sum := "988e0436420051162ccecd8c710fdb2ee15808d2cfef503a5bee508a7df50093", func := "loop.example/g00508/laws.FnExactEqualCore", spec := "fnExactEqualCore", unfollowed := true, recurses := true, loops := true, apart := false, narrowed := true }
def FnExactEqualCoreUptoSaid : Prop := fnExactEqualCoreUptoRow.holds Try.pinned (OpenSpec.upto fnExactEqualCoreSpec)

/-- 'laws.FnExactFindUnit', WHERE WHAT IT READS IS OF BULK AT MOST 1048576: true; the input reads as it did. -/
def fnExactFindUnitUptoRow : OpenClaim := { program := "ytcdcekoffaaalaa", sum := "988e0436420051162ccecd8c710fdb2ee15808d2cfef503a5bee508a7df50093", func := "loop.example/g00508/laws.FnExactFindUnit", spec := "fnExactFindUnit", unfollowed := true, recurses := true, loops := true, apart := false, narrowed := true }
def FnExactFindUnitUptoSaid : Prop := fnExactFindUnitUptoRow.holds Try.pinned (OpenSpec.upto fnExactFindUnitSpec)

end Rows
end Go.Proofs.Ytcdcekoffaaalaa
