/-
  NARROWER THAN 'FOR EVERY INPUT', by the rows' own cells (each row's printed sentence says how): FnExactHasInferenceVariable: loops · FnExactEqualDictionary: loops.
  DERIVED. THE GIVEN ROWS OF THIS SEAT. 6 by the template 'for every input the law returns true; each argument reads behind the call as it read before'; 0 by the template 'total and deterministic' (their statements: YtgchhhjfajkocaaTotals.lean).
  GIVEN WITH THE SEED: the statements are not yours to turn. If you find one false, say at which input.
  Laid BY PROGRAM, IN A SANDBOX (cutbox-rows.mjs): the forced cells as the released guide's own fill.sh prints them over the translation 8b091880fe2061de… (all of the seat's roots in one cut). By AI agents, Wed Nov 11 2026. No macro, syntax, notation, axiom, sorry.
-/
import Derived.Test.YtgchhhjfajkocaaChecked
import GoSem.Claim
import GoSem.ClaimJoined
import GoSem.ClaimMapViews
import Derived.JoinedTies
import Derived.KernelRfl
namespace Go.Proofs.Ytgchhhjfajkocaa
/- THE CELL 'sum', in the pinned program and in every row, IS THE sha256 OF THE DUMP (.gsa) THAT YtgchhhjfajkocaaProg.lean LOADS. Nothing in Lean hashes anything: it is a label: what it is worth is what the hold of that sum in a sandbox is worth. -/
noncomputable def Try.pinned : Pinned := { name := "ytgchhhjfajkocaa", sum := "8b091880fe2061de5eab6c8ed923636e4ba1da2dc69fb28a604e49bc7cac5a7c", checked := Try.checked }
namespace Rows
def none {H : Type} : Left H := { results := [], args := [] }

/-- 'laws.FnExactInferErrorName': WHATEVER THE INPUT: true; the input reads as it did. -/
def fnExactInferErrorNameSpec : ChangeSpec := { name := "fnExactInferErrorName", fn := fun _ => fun
  | [d] => { results := [.lit (.bool true)], args := [d] }
  | _ => none }
def fnExactInferErrorNameRow : OpenClaim := { program := "ytgchhhjfajkocaa", sum := "8b091880fe2061de5eab6c8ed923636e4ba1da2dc69fb28a604e49bc7cac5a7c", func := "loop.example/g00508/laws.FnExactInferErrorName", spec := "fnExactInferErrorName", apart := false }
def FnExactInferErrorNameSaid : Prop := fnExactInferErrorNameRow.holds Try.pinned (OpenSpec.ofChange fnExactInferErrorNameSpec)

/-- ITS FALSE NEIGHBOUR: 'it returns false'. Refute it at one input. -/
def fnExactInferErrorNameWrong : ChangeSpec := { name := "fnExactInferErrorName", fn := fun _ => fun
  | [d] => { results := [.lit (.bool false)], args := [d] }
  | _ => none }
def FnExactInferErrorNameWrongFalsely : Prop := fnExactInferErrorNameRow.holds Try.pinned (OpenSpec.ofChange fnExactInferErrorNameWrong)

/-- 'laws.FnExactMonoCodeName': WHATEVER THE INPUT: true; the input reads as it did. -/
def fnExactMonoCodeNameSpec : ChangeSpec := { name := "fnExactMonoCodeName", fn := fun _ => fun
  | [d] => { results := [.lit (.bool true)], args := [d] }
  | _ => none }
def fnExactMonoCodeNameRow : OpenClaim := { program := "ytgchhhjfajkocaa", sum := "8b091880fe2061de5eab6c8ed923636e4ba1da2dc69fb28a604e49bc7cac5a7c", func := "loop.example/g00508/laws.FnExactMonoCodeName", spec := "fnExactMonoCodeName", apart := false }
def FnExactMonoCodeNameSaid : Prop := fnExactMonoCodeNameRow.holds Try.pinned (OpenSpec.ofChange fnExactMonoCodeNameSpec)

/-- ITS FALSE NEIGHBOUR: 'it returns false'. Refute it at one input. -/
def fnExactMonoCodeNameWrong : ChangeSpec := { name := "fnExactMonoCodeName", fn := fun _ => fun
  | [d] => { results := [.lit (.bool false)], args := [d] }
  | _ => none }
def FnExactMonoCodeNameWrongFalsely : Prop := fnExactMonoCodeNameRow.holds Try.pinned (OpenSpec.ofChange fnExactMonoCodeNameWrong)

/-- 'laws.FnExactRunCodeName': WHATEVER THE INPUT: true; the input reads as it did. -/
def fnExactRunCodeNameSpec : ChangeSpec := { name := "fnExactRunCodeName", fn := fun _ => fun
  | [d] => { results := [.lit (.bool true)], args := [d] }
  | _ => none }
def fnExactRunCodeNameRow : OpenClaim := { program := "ytgchhhjfajkocaa", sum := "8b091880fe2061de5eab6c8ed923636e4ba1da2dc69fb28a604e49bc7cac5a7c", func := "loop.example/g00508/laws.FnExactRunCodeName", spec := "fnExactRunCodeName", apart := false }
def FnExactRunCodeNameSaid : Prop := fnExactRunCodeNameRow.holds Try.pinned (OpenSpec.ofChange fnExactRunCodeNameSpec)

/-- ITS FALSE NEIGHBOUR: 'it returns false'. Refute it at one input. -/
def fnExactRunCodeNameWrong : ChangeSpec := { name := "fnExactRunCodeName", fn := fun _ => fun
  | [d] => { results := [.lit (.bool false)], args := [d] }
  | _ => none }
def FnExactRunCodeNameWrongFalsely : Prop := fnExactRunCodeNameRow.holds Try.pinned (OpenSpec.ofChange fnExactRunCodeNameWrong)

/-- 'laws.FnExactSolveToInferCode': WHATEVER THE INPUT: true; the input reads as it did. -/
def fnExactSolveToInferCodeSpec : ChangeSpec := { name := "fnExactSolveToInferCode", fn := fun _ => fun
  | [d] => { results := [.lit (.bool true)], args := [d] }
  | _ => none }
def fnExactSolveToInferCodeRow : OpenClaim := { program := "ytgchhhjfajkocaa", sum := "8b091880fe2061de5eab6c8ed923636e4ba1da2dc69fb28a604e49bc7cac5a7c", func := "loop.example/g00508/laws.FnExactSolveToInferCode", spec := "fnExactSolveToInferCode", apart := false }
def FnExactSolveToInferCodeSaid : Prop := fnExactSolveToInferCodeRow.holds Try.pinned (OpenSpec.ofChange fnExactSolveToInferCodeSpec)

/-- ITS FALSE NEIGHBOUR: 'it returns false'. Refute it at one input. -/
def fnExactSolveToInferCodeWrong : ChangeSpec := { name := "fnExactSolveToInferCode", fn := fun _ => fun
  | [d] => { results := [.lit (.bool false)], args := [d] }
  | _ => none }
def FnExactSolveToInferCodeWrongFalsely : Prop := fnExactSolveToInferCodeRow.holds Try.pinned (OpenSpec.ofChange fnExactSolveToInferCodeWrong)

/-- 'laws.FnExactHasInferenceVariable': WHATEVER THE INPUT: true; the input reads as it did. -/
def fnExactHasInferenceVariableSpec : ChangeSpec := { name := "fnExactHasInferenceVariable", fn := fun _ => fun
  | [d] => { results := [.lit (.bool true)], args := [d] }
  | _ => none }
def fnExactHasInferenceVariableRow : OpenClaim := { program := "ytgchhhjfajkocaa", sum := "8b091880fe2061de5eab6c8ed923636e4ba1da2dc69fb28a604e49bc7cac5a7c", func := "loop.example/g00508/laws.FnExactHasInferenceVariable", spec := "fnExactHasInferenceVariable", unfollowed := true, recurses := true, loops := true, apart := false }
def FnExactHasInferenceVariableSaid : Prop := fnExactHasInferenceVariableRow.holds Try.pinned (OpenSpec.ofChange fnExactHasInferenceVariableSpec)

/-- ITS FALSE NEIGHBOUR: 'it returns false'. Refute it at one input. -/
def fnExactHasInferenceVariableWrong : ChangeSpec := { name := "fnExactHasInferenceVariable", fn := fun _ => fun
  | [d] => { results := [.lit (.bool false)], args := [d] }
  | _ => none }
def FnExactHasInferenceVariableWrongFalsely : Prop := fnExactHasInferenceVariableRow.holds Try.pinned (OpenSpec.ofChange fnExactHasInferenceVariableWrong)

/-- 'laws.FnExactEqualDictionary': WHATEVER THE INPUT: true; the input reads as it did. -/
def fnExactEqualDictionarySpec : ChangeSpec := { name := "fnExactEqualDictionary", fn := fun _ => fun
  | [d1, d2] => { results := [.lit (.bool true)], args := [d1, d2] }
  | _ => none }
def fnExactEqualDictionaryRow : OpenClaim := { program := "ytgchhhjfajkocaa", sum := "8b091880fe2061de5eab6c8ed923636e4ba1da2dc69fb28a604e49bc7cac5a7c", func := "loop.example/g00508/laws.FnExactEqualDictionary", spec := "fnExactEqualDictionary", unfollowed := true, recurses := true, loops := true, apart := false }
def FnExactEqualDictionarySaid : Prop := fnExactEqualDictionaryRow.holds Try.pinned (OpenSpec.ofChange fnExactEqualDictionarySpec)

/-- ITS FALSE NEIGHBOUR: 'it returns false'. Refute it at one input. -/
def fnExactEqualDictionaryWrong : ChangeSpec := { name := "fnExactEqualDictionary", fn := fun _ => fun
  | [d1, d2] => { results := [.lit (.bool false)], args := [d1, d2] }
  | _ => none }
def FnExactEqualDictionaryWrongFalsely : Prop := fnExactEqualDictionaryRow.holds Try.pinned (OpenSpec.ofChange fnExactEqualDictionaryWrong)

/- THE SECOND FORM. 'bulk': how many values and letters a reading holds, each counted each time it is reached (what is shared counts as often as it is met; a slice's spare places count too). A statement '..UptoSaid' is the law's where the arguments, and the package variables that the reading takes, are together of bulk at most 1048576: NARROWER than '..Said'. Prove '..Said' where nothing that the law and all that it calls make is longer than what came in: it says more and counts as full. Else prove '..UptoSaid'. A law counts once. -/
mutual
def uptoBulk {H : Type} : DataW H → Nat
  | .lit (.string bytes) => bytes.length + 1
  | .lit _ => 1
  | .nil => 1
  | .ptr d => uptoBulk d + 1
  | .slice elems spare => uptoBulkAll elems + uptoBulkAll spare + 1
  | .agg parts => uptoBulkAll parts + 1
  | .iface _ d => uptoBulk d + 1
  | .map entries => uptoBulkEntries entries + 1
  | .held _ => 1
def uptoBulkAll {H : Type} : List (DataW H) → Nat
  | [] => 0
  | d :: r => uptoBulk d + uptoBulkAll r
def uptoBulkEntries {H : Type} : List (Lit × DataW H) → Nat
  | [] => 0
  | x :: r => uptoBulkEntry x + uptoBulkEntries r
def uptoBulkEntry {H : Type} : Lit × DataW H → Nat
  | (.string bytes, d) => bytes.length + uptoBulk d + 1
  | (_, d) => uptoBulk d + 1
 end
def uptoSmall : (H : Type) → List (DataW H) → Bool := fun _ ds => decide (uptoBulkAll ds ≤ 1048576)
def OpenSpec.upto (s : _root_.Go.ChangeSpec) : _root_.Go.OpenSpec := { _root_.Go.OpenSpec.ofChange s with cond := some uptoSmall }

/-- 'laws.FnExactInferErrorName', WHERE WHAT IT READS IS OF BULK AT MOST 1048576: true; the input reads as it did. -/
def fnExactInferErrorNameUptoRow : OpenClaim := { program := "ytgchhhjfajkocaa", sum := "8b091880fe2061de5eab6c8ed923636e4ba1da2dc69fb28a604e49bc7cac5a7c", func := "loop.example/g00508/laws.FnExactInferErrorName", spec := "fnExactInferErrorName", apart := false, narrowed := true }
def FnExactInferErrorNameUptoSaid : Prop := fnExactInferErrorNameUptoRow.holds Try.pinned (OpenSpec.upto fnExactInferErrorNameSpec)

/-- 'laws.FnExactMonoCodeName', WHERE WHAT IT READS IS OF BULK AT MOST 1048576: true; the input reads as it did. -/
def fnExactMonoCodeNameUptoRow : OpenClaim := { program := "ytgchhhjfajkocaa", sum := "8b091880fe2061de5eab6c8ed923636e4ba1da2dc69fb28a604e49bc7cac5a7c", func := "loop.example/g00508/laws.FnExactMonoCodeName", spec := "fnExactMonoCodeName", apart := false, narrowed := true }
def FnExactMonoCodeNameUptoSaid : Prop := fnExactMonoCodeNameUptoRow.holds Try.pinned (OpenSpec.upto fnExactMonoCodeNameSpec)

/-- 'laws.FnExactRunCodeName', WHERE WHAT IT READS IS OF BULK AT MOST 1048576: true; the input reads as it did. -/
def fnExactRunCodeNameUptoRow : OpenClaim := { program := "ytgchhhjfajkocaa", sum := "8b091880fe2061de5eab6c8ed923636e4ba1da2dc69fb28a604e49bc7cac5a7c", func := "loop.example/g00508/laws.FnExactRunCodeName", spec := "fnExactRunCodeName", apart := false, narrowed := true }
def FnExactRunCodeNameUptoSaid : Prop := fnExactRunCodeNameUptoRow.holds Try.pinned (OpenSpec.upto fnExactRunCodeNameSpec)

/-- 'laws.FnExactSolveToInferCode', WHERE WHAT IT READS IS OF BULK AT MOST 1048576: true; the input reads as it did. -/
def fnExactSolveToInferCodeUptoRow : OpenClaim := { program := "ytgchhhjfajkocaa", sum := "8b091880fe2061de5eab6c8ed923636e4ba1da2dc69fb28a604e49bc7cac5a7c", func := "loop.example/g00508/laws.FnExactSolveToInferCode", spec := "fnExactSolveToInferCode", apart := false, narrowed := true }
def FnExactSolveToInferCodeUptoSaid : Prop := fnExactSolveToInferCodeUptoRow.holds Try.pinned (OpenSpec.upto fnExactSolveToInferCodeSpec)

/-- 'laws.FnExactHasInferenceVariable', WHERE WHAT IT READS IS OF BULK AT MOST 1048576: true; the input reads as it did. -/
def fnExactHasInferenceVariableUptoRow : OpenClaim := { program := "ytgchhhjfajkocaa", sum := "8b091880fe2061de5eab6c8ed923636e4ba1da2dc69fb28a604e49bc7cac5a7c", func := "loop.example/g00508/laws.FnExactHasInferenceVariable", spec := "fnExactHasInferenceVariable", unfollowed := true, recurses := true, loops := true, apart := false, narrowed := true }
def FnExactHasInferenceVariableUptoSaid : Prop := fnExactHasInferenceVariableUptoRow.holds Try.pinned (OpenSpec.upto fnExactHasInferenceVariableSpec)

/-- 'laws.FnExactEqualDictionary', WHERE WHAT IT READS IS OF BULK AT MOST 1048576: true; the input reads as it did. -/
def fnExactEqualDictionaryUptoRow : OpenClaim := { program := "ytgchhhjfajkocaa", sum := "8b091880fe2061de5eab6c8ed923636e4ba1da2dc69fb28a604e49bc7cac5a7c", func := "loop.example/g00508/laws.FnExactEqualDictionary", spec := "fnExactEqualDictionary", unfollowed := true, recurses := true, loops := true, apart := false, narrowed := true }
def FnExactEqualDictionaryUptoSaid : Prop := fnExactEqualDictionaryUptoRow.holds Try.pinned (OpenSpec.upto fnExactEqualDictionarySpec)

end Rows
end Go.Proofs.Ytgchhhjfajkocaa
