/-
  DERIVED. GIVEN WITH THE SEED: THE CARDS: each row of YtajccjbigcdkbaaDoorRows.lean that lists a variable, with what it lists TIED to the program's text (the seventh form; the later family's looks); each row that meets fmt, with fmt's text TOLD by the authors' own Lean function (tested against real Go, not proved from fmt's source: count such statements apart). THE CARD IS WHAT COUNTS. Prove the row's statement (the work); the ties are given (YtajccjbigcdkbaaDoorTie.lean); close each card by the builder's one call (the guide's Derived/Test/ToyasCard.lean, 'card_holds'). Laid BY PROGRAM, IN A SANDBOX (cutbox-door.mjs). By AI agents, Wed Nov 11 2026. No macro, syntax, notation, axiom, sorry.
-/
import Derived.Test.YtajccjbigcdkbaaDoorRows
import GoSem.ClaimSeven
namespace Go.Proofs.YtajccjbigcdkbaaDoor
namespace Rows

/-- THE TIED CARD OF 'warpwrightlaw38.MeterSums'. -/
def meterSumsCard : Claim7 := { stood := { row := meterSumsRow, standIns := [], harness := (true, "bbf768d7aab3dd549f0b5a627c290795595818ceb0d567e3937261be1d1cb742"), looks := true }, kinds := [], alts := [], laidByText := true, laidKinds := [.data, .data, .data, .data, .sentinel, .sentinel, .pinned], laidTests := true, laidLooks := .later }
def MeterSumsCardSaid : Prop := Claim7.holds Tryd.pinned (.plain (OpenSpec.ofChange meterSumsSpec)) meterSumsCard

/-- THE TIED CARD OF 'warpwrightlaw38.MeterTexts'. -/
def meterTextsCard : Claim7 := { stood := { row := meterTextsRow, standIns := [], harness := (true, "bbf768d7aab3dd549f0b5a627c290795595818ceb0d567e3937261be1d1cb742"), looks := true }, kinds := [], alts := [], laidByText := true, laidKinds := [.data, .data, .data, .data, .sentinel, .sentinel, .pinned], laidTests := true, laidLooks := .later }
def MeterTextsCardSaid : Prop := Claim7.holds Tryd.pinned (.plain (OpenSpec.ofChange meterTextsSpec)) meterTextsCard

/-- THE TIED CARD OF 'warpwrightlaw38.MeterReports'. -/
def meterReportsCard : Claim7 := { stood := { row := meterReportsRow, standIns := [], harness := (true, "bbf768d7aab3dd549f0b5a627c290795595818ceb0d567e3937261be1d1cb742"), looks := true }, kinds := [], alts := [], laidByText := true, laidKinds := [.data, .data, .data, .data, .sentinel, .sentinel, .pinned], laidTests := true, laidLooks := .later }
def MeterReportsCardSaid : Prop := Claim7.holds Tryd.pinned (.plain (OpenSpec.ofChange meterReportsSpec)) meterReportsCard

/-- THE SECOND FORM's CARD OF 'warpwrightlaw38.MeterSums'. -/
def meterSumsUptoCard : Claim7 := { stood := { row := meterSumsUptoRow, standIns := [], harness := (true, "bbf768d7aab3dd549f0b5a627c290795595818ceb0d567e3937261be1d1cb742"), looks := true }, kinds := [], alts := [], laidByText := true, laidKinds := [.data, .data, .data, .data, .sentinel, .sentinel, .pinned], laidTests := true, laidLooks := .later }
def MeterSumsUptoCardSaid : Prop := Claim7.holds Tryd.pinned (.plain (OpenSpec.upto meterSumsSpec)) meterSumsUptoCard

/-- THE SECOND FORM's CARD OF 'warpwrightlaw38.MeterTexts'. -/
def meterTextsUptoCard : Claim7 := { stood := { row := meterTextsUptoRow, standIns := [], harness := (true, "bbf768d7aab3dd549f0b5a627c290795595818ceb0d567e3937261be1d1cb742"), looks := true }, kinds := [], alts := [], laidByText := true, laidKinds := [.data, .data, .data, .data, .sentinel, .sentinel, .pinned], laidTests := true, laidLooks := .later }
def MeterTextsUptoCardSaid : Prop := Claim7.holds Tryd.pinned (.plain (OpenSpec.upto meterTextsSpec)) meterTextsUptoCard

/-- THE SECOND FORM's CARD OF 'warpwrightlaw38.MeterReports'. -/
def meterReportsUptoCard : Claim7 := { stood := { row := meterReportsUptoRow, standIns := [], harness := (true, "bbf768d7aab3dd549f0b5a627c290795595818ceb0d567e3937261be1d1cb742"), looks := true }, kinds := [], alts := [], laidByText := true, laidKinds := [.data, .data, .data, .data, .sentinel, .sentinel, .pinned], laidTests := true, laidLooks := .later }
def MeterReportsUptoCardSaid : Prop := Claim7.holds Tryd.pinned (.plain (OpenSpec.upto meterReportsSpec)) meterReportsUptoCard
end Rows
end Go.Proofs.YtajccjbigcdkbaaDoor
