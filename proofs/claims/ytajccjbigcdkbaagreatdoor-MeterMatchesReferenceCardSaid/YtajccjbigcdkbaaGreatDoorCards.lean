/-
  DERIVED. GIVEN WITH THE SEED: THE CARDS: each row of YtajccjbigcdkbaaGreatDoorRows.lean that lists a variable, with what it lists TIED to the program's text (the seventh form; the later family's looks); each row that meets fmt, with fmt's text TOLD by the authors' own Lean function (tested against real Go, not proved from fmt's source: count such statements apart). THE CARD IS WHAT COUNTS. Prove the row's statement (the work); the ties are given (YtajccjbigcdkbaaGreatDoorTie.lean); close each card by the builder's one call (the guide's Derived/Test/ToyasCard.lean, 'card_holds'). Laid BY PROGRAM, IN A SANDBOX (cutbox-door.mjs). By AI agents, Wed Nov 11 2026. No macro, syntax, notation, axiom, sorry.
-/
import Derived.Test.YtajccjbigcdkbaaGreatDoorRows
import GoSem.ClaimSeven
namespace Go.Proofs.YtajccjbigcdkbaaGreatDoor
namespace Rows

/-- THE TIED CARD OF 'warpwrightlaw38.MeterMatchesReference'. -/
def meterMatchesReferenceCard : Claim7 := { stood := { row := meterMatchesReferenceRow, standIns := [], harness := (true, "d985a1c3f751309b6ea799331180c5519ae11c76ce4bc227c6e8aff7552774ef"), looks := true }, kinds := [], alts := [], laidByText := true, laidKinds := [.data, .data, .data, .data, .sentinel, .sentinel, .pinned], laidTests := true, laidLooks := .later }
def MeterMatchesReferenceCardSaid : Prop := Claim7.holds Tryz.pinned (.plain (OpenSpec.ofChange meterMatchesReferenceSpec)) meterMatchesReferenceCard

/-- THE SECOND FORM's CARD OF 'warpwrightlaw38.MeterMatchesReference'. -/
def meterMatchesReferenceUptoCard : Claim7 := { stood := { row := meterMatchesReferenceUptoRow, standIns := [], harness := (true, "d985a1c3f751309b6ea799331180c5519ae11c76ce4bc227c6e8aff7552774ef"), looks := true }, kinds := [], alts := [], laidByText := true, laidKinds := [.data, .data, .data, .data, .sentinel, .sentinel, .pinned], laidTests := true, laidLooks := .later }
def MeterMatchesReferenceUptoCardSaid : Prop := Claim7.holds Tryz.pinned (.plain (OpenSpec.upto meterMatchesReferenceSpec)) meterMatchesReferenceUptoCard
end Rows
end Go.Proofs.YtajccjbigcdkbaaGreatDoor
