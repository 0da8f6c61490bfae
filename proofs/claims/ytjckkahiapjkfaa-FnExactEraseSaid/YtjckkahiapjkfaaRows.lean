/-
  NARROWER THAN 'FOR EVERY INPUT', by the rows' own cells (each row's printed sentence says how): FnExactLookupVariable: loops · FnExactEvalPrim: loops · FnExactErase: loops.
  DERIVED. THE GIVEN ROWS OF THIS SEAT. 3 by the template 'for every input the law returns true; each argument reads behind the call as it read before'; 0 by the template 'total and deterministic' (their statements: YtjckkahiapjkfaaTotals.lean).
  GIVEN WITH THE SEED: the statements are not yours to turn. If you find one false, say at which input.
  Laid BY PROGRAM, IN A SANDBOX (cutbox-rows.mjs): the forced cells as the released guide's own fill.sh prints them over the translation 4116a0932b0dc6db… (all of the seat's roots in one cut). By AI agents, Wed Nov 11 2026. No macro, syntax, notation, axiom, sorry.
-/
import Derived.Test.YtjckkahiapjkfaaChecked
import GoSem.Claim
import GoSem.ClaimJoined
import GoSem.ClaimMapViews
import Derived.JoinedTies
import Derived.KernelRfl
namespace Go.Proofs.Ytjckkahiapjkfaa
/- THE CELL 'sum', in the pinned program and in every row, IS THE sha256 OF THE DUMP (.gsa) THAT YtjckkahiapjkfaaProg.lean LOADS. Nothing in Lean hashes anything: it is a label: what it is worth is what the hold of that sum in a sandbox is worth. -/
noncomputable def Try.pinned : Pinned := { name := "ytjckkahiapjkfaa", sum := "4116a0932b0dc6db9a372d2caca19904f95f23cdc5393062146a0acb4f9c1ccc", checked := Try.checked }
namespace Rows
def none {H : Type} : Left H := { results := [], args := [] }

/-- 'laws.FnExactLookupVariable': WHATEVER THE INPUT: true; the input reads as it did. -/
def fnExactLookupVariableSpec : ChangeSpec := { name := "fnExactLookupVariable", fn := fun _ => fun
  | [d1, d2] => { results := [.lit (.bool true)], args := [d1, d2] }
  | _ => none }
def fnExactLookupVariableRow : OpenClaim := { program := "ytjckkahiapjkfaa", sum := "4116a0932b0dc6db9a372d2caca19904f95f23cdc5393062146a0acb4f9c1ccc", func := "loop.example/g00508/laws.FnExactLookupVariable", spec := "fnExactLookupVariable", recurses := true, loops := true, apart := false }
def FnExactLookupVariableSaid : Prop := fnExactLookupVariableRow.holds Try.pinned (OpenSpec.ofChange fnExactLookupVariableSpec)

/-- ITS FALSE NEIGHBOUR: 'it returns false'. Refute it at one input. -/
def fnExactLookupVariableWrong : ChangeSpec := { name := "fnExactLookupVariable", fn := fun _ => fun
  | [d1, d2] => { results := [.lit (.bool false)], args := [d1, d2] }
  | _ => none }
def FnExactLookupVariableWrongFalsely : Prop := fnExactLookupVariableRow.holds Try.pinned (OpenSpec.ofChange fnExactLookupVariableWrong)

/-- 'laws.FnExactEvalPrim': WHATEVER THE INPUT: true; the input reads as it did. -/
def fnExactEvalPrimSpec : ChangeSpec := { name := "fnExactEvalPrim", fn := fun _ => fun
  | [d1, d2, d3] => { results := [.lit (.bool true)], args := [d1, d2, d3] }
  | _ => none }
def fnExactEvalPrimRow : OpenClaim := { program := "ytjckkahiapjkfaa", sum := "4116a0932b0dc6db9a372d2caca19904f95f23cdc5393062146a0acb4f9c1ccc", func := "loop.example/g00508/laws.FnExactEvalPrim", spec := "fnExactEvalPrim", unfollowed := true, recurses := true, loops := true, apart := false }
def FnExactEvalPrimSaid : Prop := fnExactEvalPrimRow.holds Try.pinned (OpenSpec.ofChange fnExactEvalPrimSpec)

/-- ITS FALSE NEIGHBOUR: 'it returns false'. Refute it at one input. -/
def fnExactEvalPrimWrong : ChangeSpec := { name := "fnExactEvalPrim", fn := fun _ => fun
  | [d1, d2, d3] => { results := [.lit (.bool false)], args := [d1, d2, d3] }
  | _ => none }
def FnExactEvalPrimWrongFalsely : Prop := fnExactEvalPrimRow.holds Try.pinned (OpenSpec.ofChange fnExactEvalPrimWrong)

/-- 'laws.FnExactErase': WHATEVER THE INPUT: true; the input reads as it did. -/
def fnExactEraseSpec : ChangeSpec := { name := "fnExactErase", fn := fun _ => fun
  | [d] => { results := [.lit (.bool true)], args := [d] }
  | _ => none }
def fnExactEraseRow : OpenClaim := { program := "ytjckkahiapjkfaa", sum := "4116a0932b0dc6db9a372d2caca19904f95f23cdc5393062146a0acb4f9c1ccc", func := "loop.example/g00508/laws.FnExactErase", spec := "fnExactErase", recurses := true, loops := true, apart := false }
def FnExactEraseSaid : Prop := fnExactEraseRow.holds Try.pinned (OpenSpec.ofChange fnExactEraseSpec)

/-- ITS FALSE NEIGHBOUR: 'it returns false'. Refute it at one input. -/
def fnExactEraseWrong : ChangeSpec := { name := "fnExactErase", fn := fun _ => fun
  | [d] => { results := [.lit (.bool false)], args := [d] }
  | _ => none }
def FnExactEraseWrongFalsely : Prop := fnExactEraseRow.holds Try.pinned (OpenSpec.ofChange fnExactEraseWrong)

/- THE SECOND FORM. 'bulk': how many values and letters a reading holds, each counted each time it is reached (what is shared counts as often as it is met; a slice's spare places count too). A statement '..UptoSaid' is the law's where the arguments, and the package variables that the reading takes, are together of bulk at most 1048576: NARROWER than '..Said'. Prove '..Said' where nothing that the law and all that it calls make is longer than what came in: it says more and counts as full. Else prove '..UptoSaid'. A law counts once. -/
mutual
def uptoBulk {H : Type} : DataW H → Nat
  | .lit (.string bytes) => bytes.length + 1
  | .lit _ => 1
  | .nil => 1
  | .ptr d => uptoBulk d + 1
  | .slice elems spare => uptoBulkAll elems + uptoBulkAll spare + 1
  | .agg parts => uptoBulkAll parts + 1
  | .iface _ d => uptoBulk d + 1
  | .map entries => uptoBulkEntries entries + 1
  | .held _ => 1
def uptoBulkAll {H : Type} : List (DataW H) → Nat
  | [] => 0
  | d :: r => uptoBulk d + uptoBulkAll r
def uptoBulkEntries {H : Type} : List (Lit × DataW H) → Nat
  | [] => 0
  | x :: r => uptoBulkEntry x + uptoBulkEntries r
def uptoBulkEntry {H : Type} : Lit × DataW H → Nat
  | (.string bytes, d) => bytes.length + uptoBulk d + 1
  | (_, d) => uptoBulk d + 1
 end
def uptoSmall : (H : Type) → List (DataW H) → Bool := fun _ ds => decide (uptoBulkAll ds ≤ 1048576)
def OpenSpec.upto (s : _root_.Go.ChangeSpec) : _root_.Go.OpenSpec := { _root_.Go.OpenSpec.ofChange s with cond := some uptoSmall }

/-- 'laws.FnExactLookupVariable', WHERE WHAT IT READS IS OF BULK AT MOST 1048576: true; the input reads as it did. -/
def fnExactLookupVariableUptoRow : OpenClaim := { program := "ytjckkahiapjkfaa", sum := "4116a0932b0dc6db9a372d2caca19904f95f23cdc5393062146a0acb4f9c1ccc", func := "loop.example/g00508/laws.FnExactLookupVariable", spec := "fnExactLookupVariable", recurses := true, loops := true, apart := false, narrowed := true }
def FnExactLookupVariableUptoSaid : Prop := fnExactLookupVariableUptoRow.holds Try.pinned (OpenSpec.upto fnExactLookupVariableSpec)

/-- 'laws.FnExactEvalPrim', WHERE WHAT IT READS IS OF BULK AT MOST 1048576: true; the input reads as it did. -/
def fnExactEvalPrimUptoRow : OpenClaim := { program := "ytjckkahiapjkfaa", sum := "4116a0932b0dc6db9a372d2caca19904f95f23cdc5393062146a0acb4f9c1ccc", func := "loop.example/g00508/laws.FnExactEvalPrim", spec := "fnExactEvalPrim", unfollowed := true, recurses := true, loops := true, apart := false, narrowed := true }
def FnExactEvalPrimUptoSaid : Prop := fnExactEvalPrimUptoRow.holds Try.pinned (OpenSpec.upto fnExactEvalPrimSpec)

/-- 'laws.FnExactErase', WHERE WHAT IT READS IS OF BULK AT MOST 1048576: true; the input reads as it did. -/
def fnExactEraseUptoRow : OpenClaim := { program := "ytjckkahiapjkfaa", sum := "4116a0932b0dc6db9a372d2caca19904f95f23cdc5393062146a0acb4f9c1ccc", func := "loop.example/g00508/laws.FnExactErase", spec := "fnExactErase", recurses := true, loops := true, apart := false, narrowed := true }
def FnExactEraseUptoSaid : Prop := fnExactEraseUptoRow.holds Try.pinned (OpenSpec.upto fnExactEraseSpec)

end Rows
end Go.Proofs.Ytjckkahiapjkfaa
