/-
  NARROWER THAN 'FOR EVERY INPUT', by the rows' own cells (each row's printed sentence says how): FnExactFirstPackages: loops · FnExactResolveMethod: loops.
  DERIVED. THE GIVEN ROWS OF THIS SEAT. 2 by the template 'for every input the law returns true; each argument reads behind the call as it read before'; 0 by the template 'total and deterministic' (their statements: YthojhakapbfbiaaGreatTotals.lean).
  GIVEN WITH THE SEED: the statements are not yours to turn. If you find one false, say at which input.
  Laid BY PROGRAM, IN A SANDBOX (cutbox-rows.mjs): the forced cells as the released guide's own fill.sh prints them over the translation 24329a3e53916756… (all of the seat's roots in one cut). By AI agents, Wed Nov 11 2026. No macro, syntax, notation, axiom, sorry.
-/
import Derived.Test.YthojhakapbfbiaaGreatChecked
import GoSem.Claim
import GoSem.ClaimJoined
import GoSem.ClaimMapViews
import Derived.JoinedTies
import Derived.KernelRfl
namespace Go.Proofs.YthojhakapbfbiaaGreat
/- THE CELL 'sum', in the pinned program and in every row, IS THE sha256 OF THE DUMP (.gsa) THAT YthojhakapbfbiaaGreatProg.lean LOADS. Nothing in Lean hashes anything: it is a label: what it is worth is what the hold of that sum in a sandbox is worth. -/
noncomputable def Tryz.pinned : Pinned := { name := "ythojhakapbfbiaagreat", sum := "24329a3e53916756fa79adcf69218e5a487d421c7e65b768ec9aa90f88b55cbf", checked := Tryz.checked }
namespace Rows
def none {H : Type} : Left H := { results := [], args := [] }

/-- 'laws.FnExactFirstPackages': WHATEVER THE INPUT: true; the input reads as it did. -/
def fnExactFirstPackagesSpec : ChangeSpec := { name := "fnExactFirstPackages", fn := fun _ => fun
  | [d1, d2] => { results := [.lit (.bool true)], args := [d1, d2] }
  | _ => none }
def fnExactFirstPackagesRow : OpenClaim := { program := "ythojhakapbfbiaagreat", sum := "24329a3e53916756fa79adcf69218e5a487d421c7e65b768ec9aa90f88b55cbf", func := "loop.example/g00508/laws.FnExactFirstPackages", spec := "fnExactFirstPackages", recurses := true, loops := true, apart := false }
def FnExactFirstPackagesSaid : Prop := fnExactFirstPackagesRow.holds Tryz.pinned (OpenSpec.ofChange fnExactFirstPackagesSpec)

/-- ITS FALSE NEIGHBOUR: 'it returns false'. Refute it at one input. -/
def fnExactFirstPackagesWrong : ChangeSpec := { name := "fnExactFirstPackages", fn := fun _ => fun
  | [d1, d2] => { results := [.lit (.bool false)], args := [d1, d2] }
  | _ => none }
def FnExactFirstPackagesWrongFalsely : Prop := fnExactFirstPackagesRow.holds Tryz.pinned (OpenSpec.ofChange fnExactFirstPackagesWrong)

/-- 'laws.FnExactResolveMethod': WHATEVER THE INPUT: true; the input reads as it did. -/
def fnExactResolveMethodSpec : ChangeSpec := { name := "fnExactResolveMethod", fn := fun _ => fun
  | [d1, d2, d3, d4, d5] => { results := [.lit (.bool true)], args := [d1, d2, d3, d4, d5] }
  | _ => none }
def fnExactResolveMethodRow : OpenClaim := { program := "ythojhakapbfbiaagreat", sum := "24329a3e53916756fa79adcf69218e5a487d421c7e65b768ec9aa90f88b55cbf", func := "loop.example/g00508/laws.FnExactResolveMethod", spec := "fnExactResolveMethod", unfollowed := true, recurses := true, loops := true, apart := false }
def FnExactResolveMethodSaid : Prop := fnExactResolveMethodRow.holds Tryz.pinned (OpenSpec.ofChange fnExactResolveMethodSpec)

/-- ITS FALSE NEIGHBOUR: 'it returns false'. Refute it at one input. -/
def fnExactResolveMethodWrong : ChangeSpec := { name := "fnExactResolveMethod", fn := fun _ => fun
  | [d1, d2, d3, d4, d5] => { results := [.lit (.bool false)], args := [d1, d2, d3, d4, d5] }
  | _ => none }
def FnExactResolveMethodWrongFalsely : Prop := fnExactResolveMethodRow.holds Tryz.pinned (OpenSpec.ofChange fnExactResolveMethodWrong)

/- THE SECOND FORM. 'bulk': how many values and letters a reading holds, each counted each time it is reached (what is shared counts as often as it is met; a slice's spare places count too). A statement '..UptoSaid' is the law's where the arguments, and the package variables that the reading takes, are together of bulk at most 1048576: NARROWER than '..Said'. Prove '..Said' where nothing that the law and all that it calls make is longer than what came in: it says more and counts as full. Else prove '..UptoSaid'. A law counts once. -/
mutual
def uptoBulk {H : Type} : DataW H → Nat
  | .lit (.string bytes) => bytes.length + 1
  | .lit _ => 1
  | .nil => 1
  | .ptr d => uptoBulk d + 1
  | .slice elems spare => uptoBulkAll elems + uptoBulkAll spare + 1
  | .agg parts => uptoBulkAll parts + 1
  | .iface _ d => uptoBulk d + 1
  | .map entries => uptoBulkEntries entries + 1
  | .held _ => 1
def uptoBulkAll {H : Type} : List (DataW H) → Nat
  | [] => 0
  | d :: r => uptoBulk d + uptoBulkAll r
def uptoBulkEntries {H : Type} : List (Lit × DataW H) → Nat
  | [] => 0
  | x :: r => uptoBulkEntry x + uptoBulkEntries r
def uptoBulkEntry {H : Type} : Lit × DataW H → Nat
  | (.string bytes, d) => bytes.length + uptoBulk d + 1
  | (_, d) => uptoBulk d + 1
 end
def uptoSmall : (H : Type) → List (DataW H) → Bool := fun _ ds => decide (uptoBulkAll ds ≤ 1048576)
def OpenSpec.upto (s : _root_.Go.ChangeSpec) : _root_.Go.OpenSpec := { _root_.Go.OpenSpec.ofChange s with cond := some uptoSmall }

/-- 'laws.FnExactFirstPackages', WHERE WHAT IT READS IS OF BULK AT MOST 1048576: true; the input reads as it did. -/
def fnExactFirstPackagesUptoRow : OpenClaim := { program := "ythojhakapbfbiaagreat", sum := "24329a3e53916756fa79adcf69218e5a487d421c7e65b768ec9aa90f88b55cbf", func := "loop.example/g00508/laws.FnExactFirstPackages", spec := "fnExactFirstPackages", recurses := true, loops := true, apart := false, narrowed := true }
def FnExactFirstPackagesUptoSaid : Prop := fnExactFirstPackagesUptoRow.holds Tryz.pinned (OpenSpec.upto fnExactFirstPackagesSpec)

/-- 'laws.FnExactResolveMethod', WHERE WHAT IT READS IS OF BULK AT MOST 1048576: true; the input reads as it did. -/
def fnExactResolveMethodUptoRow : OpenClaim := { program := "ythojhakapbfbiaagreat", sum := "24329a3e53916756fa79adcf69218e5a487d421c7e65b768ec9aa90f88b55cbf", func := "loop.example/g00508/laws.FnExactResolveMethod", spec := "fnExactResolveMethod", unfollowed := true, recurses := true, loops := true, apart := false, narrowed := true }
def FnExactResolveMethodUptoSaid : Prop := fnExactResolveMethodUptoRow.holds Tryz.pinned (OpenSpec.upto fnExactResolveMethodSpec)

end Rows
end Go.Proofs.YthojhakapbfbiaaGreat
