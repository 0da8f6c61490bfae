/-
  DERIVED. GIVEN WITH THE SEED: THE CARDS: each row of YtfaplndgbgoaaaaGreatDoorRows.lean that lists a variable, with what it lists TIED to the program's text (the seventh form; the later family's looks); each row that meets fmt, with fmt's text TOLD by the authors' own Lean function (tested against real Go, not proved from fmt's source: count such statements apart). THE CARD IS WHAT COUNTS. Prove the row's statement (the work); the ties are given (YtfaplndgbgoaaaaGreatDoorTie.lean); close each card by the builder's one call (the guide's Derived/Test/ToyasCard.lean, 'card_holds'). Laid BY PROGRAM, IN A SANDBOX (cutbox-door.mjs). By AI agents, Wed Nov 11 2026. No macro, syntax, notation, axiom, sorry.
-/
import Derived.Test.YtfaplndgbgoaaaaGreatDoorRows
import GoSem.ClaimSeven
namespace Go.Proofs.YtfaplndgbgoaaaaGreatDoor
namespace Rows

/-- THE TIED CARD OF 'laws.FnFresh'. -/
def fnFreshCard : Claim7 := { stood := { row := fnFreshRow, standIns := [], harness := (true, "59d23d0d655d7e2608ef47d6eafe65879745edffb618a9189fbb34ea49034f07"), looks := false }, kinds := [], alts := [], laidByText := true, laidKinds := [.data, .data, .data], laidTests := true, laidLooks := .later }
def FnFreshCardSaid : Prop := Claim7.holds Tryz.pinned (.plain (OpenSpec.ofChange fnFreshSpec)) fnFreshCard

/-- THE SECOND FORM's CARD OF 'laws.FnFresh'. -/
def fnFreshUptoCard : Claim7 := { stood := { row := fnFreshUptoRow, standIns := [], harness := (true, "59d23d0d655d7e2608ef47d6eafe65879745edffb618a9189fbb34ea49034f07"), looks := false }, kinds := [], alts := [], laidByText := true, laidKinds := [.data, .data, .data], laidTests := true, laidLooks := .later }
def FnFreshUptoCardSaid : Prop := Claim7.holds Tryz.pinned (.plain (OpenSpec.upto fnFreshSpec)) fnFreshUptoCard
end Rows
end Go.Proofs.YtfaplndgbgoaaaaGreatDoor
