/-
  DERIVED. GIVEN WITH THE SEED: THE CARDS: each row of YthojhakapbfbiaaDoorRows.lean that lists a variable, with what it lists TIED to the program's text (the seventh form; the later family's looks); each row that meets fmt, with fmt's text TOLD by the authors' own Lean function (tested against real Go, not proved from fmt's source: count such statements apart). THE CARD IS WHAT COUNTS. Prove the row's statement (the work); the ties are given (YthojhakapbfbiaaDoorTie.lean); close each card by the builder's one call (the guide's Derived/Test/ToyasCard.lean, 'card_holds'). Laid BY PROGRAM, IN A SANDBOX (cutbox-door.mjs). By AI agents, Wed Nov 11 2026. No macro, syntax, notation, axiom, sorry.
-/
import Derived.Test.YthojhakapbfbiaaDoorRows
import GoSem.ClaimSeven
namespace Go.Proofs.YthojhakapbfbiaaDoor
namespace Rows

/-- THE TIED CARD OF 'laws.FnExactFreshVariable'. -/
def fnExactFreshVariableCard : Claim7 := { stood := { row := fnExactFreshVariableRow, standIns := [], harness := (true, "78a23718fd6170def1ca8b07ad717a9cfc5daf6478765ed8ab9d5c22411dcfa3"), looks := false }, kinds := [], alts := [], laidByText := true, laidKinds := [.data, .data, .data], laidTests := true, laidLooks := .later }
def FnExactFreshVariableCardSaid : Prop := Claim7.holds Tryd.pinned (.plain (OpenSpec.ofChange fnExactFreshVariableSpec)) fnExactFreshVariableCard

/-- THE TIED CARD OF 'laws.FnExactFormatValue'. -/
def fnExactFormatValueCard : Claim7 := { stood := { row := fnExactFormatValueRow, standIns := [], harness := (true, "78a23718fd6170def1ca8b07ad717a9cfc5daf6478765ed8ab9d5c22411dcfa3"), looks := false }, kinds := [], alts := [], laidByText := true, laidKinds := [.data, .data, .data], laidTests := true, laidLooks := .later }
def FnExactFormatValueCardSaid : Prop := Claim7.holds Tryd.pinned (.plain (OpenSpec.ofChange fnExactFormatValueSpec)) fnExactFormatValueCard

/-- THE TIED CARD OF 'laws.FnPrim'. -/
def fnPrimCard : Claim7 := { stood := { row := fnPrimRow, standIns := [], harness := (true, "78a23718fd6170def1ca8b07ad717a9cfc5daf6478765ed8ab9d5c22411dcfa3"), looks := false }, kinds := [], alts := [], laidByText := true, laidKinds := [.data, .data, .data], laidTests := true, laidLooks := .later }
def FnPrimCardSaid : Prop := Claim7.holds Tryd.pinned (.plain (OpenSpec.ofChange fnPrimSpec)) fnPrimCard

/-- THE SECOND FORM's CARD OF 'laws.FnExactFreshVariable'. -/
def fnExactFreshVariableUptoCard : Claim7 := { stood := { row := fnExactFreshVariableUptoRow, standIns := [], harness := (true, "78a23718fd6170def1ca8b07ad717a9cfc5daf6478765ed8ab9d5c22411dcfa3"), looks := false }, kinds := [], alts := [], laidByText := true, laidKinds := [.data, .data, .data], laidTests := true, laidLooks := .later }
def FnExactFreshVariableUptoCardSaid : Prop := Claim7.holds Tryd.pinned (.plain (OpenSpec.upto fnExactFreshVariableSpec)) fnExactFreshVariableUptoCard

/-- THE SECOND FORM's CARD OF 'laws.FnExactFormatValue'. -/
def fnExactFormatValueUptoCard : Claim7 := { stood := { row := fnExactFormatValueUptoRow, standIns := [], harness := (true, "78a23718fd6170def1ca8b07ad717a9cfc5daf6478765ed8ab9d5c22411dcfa3"), looks := false }, kinds := [], alts := [], laidByText := true, laidKinds := [.data, .data, .data], laidTests := true, laidLooks := .later }
def FnExactFormatValueUptoCardSaid : Prop := Claim7.holds Tryd.pinned (.plain (OpenSpec.upto fnExactFormatValueSpec)) fnExactFormatValueUptoCard

/-- THE SECOND FORM's CARD OF 'laws.FnPrim'. -/
def fnPrimUptoCard : Claim7 := { stood := { row := fnPrimUptoRow, standIns := [], harness := (true, "78a23718fd6170def1ca8b07ad717a9cfc5daf6478765ed8ab9d5c22411dcfa3"), looks := false }, kinds := [], alts := [], laidByText := true, laidKinds := [.data, .data, .data], laidTests := true, laidLooks := .later }
def FnPrimUptoCardSaid : Prop := Claim7.holds Tryd.pinned (.plain (OpenSpec.upto fnPrimSpec)) fnPrimUptoCard
end Rows
end Go.Proofs.YthojhakapbfbiaaDoor
