/-
  DERIVED. GIVEN WITH THE SEED: THE CARDS: each row of YtonhplejlfnkoaaGreatDoorRows.lean that lists a variable, with what it lists TIED to the program's text (the seventh form; the later family's looks); each row that meets fmt, with fmt's text TOLD by the authors' own Lean function (tested against real Go, not proved from fmt's source: count such statements apart). THE CARD IS WHAT COUNTS. Prove the row's statement (the work); the ties are given (YtonhplejlfnkoaaGreatDoorTie.lean); close each card by the builder's one call (the guide's Derived/Test/ToyasCard.lean, 'card_holds'). Laid BY PROGRAM, IN A SANDBOX (cutbox-door.mjs). By AI agents, Wed Nov 11 2026. No macro, syntax, notation, axiom, sorry.
-/
import Derived.Test.YtonhplejlfnkoaaGreatDoorRows
import GoSem.ClaimSeven
namespace Go.Proofs.YtonhplejlfnkoaaGreatDoor
namespace Rows

/-- THE TIED CARD OF 'forebaylaw13.TextDecodes'. -/
def textDecodesCard : Claim7 := { stood := { row := textDecodesRow, standIns := [], harness := (true, "5c9c435563f44f8d0c1ad8845ce53eb120e3c9c8ea6547443daebc432f69e1a7"), looks := true }, kinds := [], alts := [], laidByText := true, laidKinds := [.data, .data, .data, .data, .sentinel, .sentinel, .pinned], laidTests := true, laidLooks := .later }
def TextDecodesCardSaid : Prop := Claim7.holds Tryz.pinned (.plain (OpenSpec.ofChange textDecodesSpec)) textDecodesCard

/-- THE TIED CARD OF 'forebaylaw13.TextMany'. -/
def textManyCard : Claim7 := { stood := { row := textManyRow, standIns := [], harness := (true, "5c9c435563f44f8d0c1ad8845ce53eb120e3c9c8ea6547443daebc432f69e1a7"), looks := true }, kinds := [], alts := [], laidByText := true, laidKinds := [.data, .data, .data, .data, .sentinel, .sentinel, .pinned], laidTests := true, laidLooks := .later }
def TextManyCardSaid : Prop := Claim7.holds Tryz.pinned (.plain (OpenSpec.ofChange textManySpec)) textManyCard

/-- THE TIED CARD OF 'forebaylaw13.TextLines'. -/
def textLinesCard : Claim7 := { stood := { row := textLinesRow, standIns := [], harness := (true, "5c9c435563f44f8d0c1ad8845ce53eb120e3c9c8ea6547443daebc432f69e1a7"), looks := true }, kinds := [], alts := [], laidByText := true, laidKinds := [.data, .data, .data, .data, .sentinel, .sentinel, .pinned], laidTests := true, laidLooks := .later }
def TextLinesCardSaid : Prop := Claim7.holds Tryz.pinned (.plain (OpenSpec.ofChange textLinesSpec)) textLinesCard

/-- THE TIED CARD OF 'forebaylaw13.TextBehind'. -/
def textBehindCard : Claim7 := { stood := { row := textBehindRow, standIns := [], harness := (true, "5c9c435563f44f8d0c1ad8845ce53eb120e3c9c8ea6547443daebc432f69e1a7"), looks := true }, kinds := [], alts := [], laidByText := true, laidKinds := [.data, .data, .data, .data, .sentinel, .sentinel, .pinned], laidTests := true, laidLooks := .later }
def TextBehindCardSaid : Prop := Claim7.holds Tryz.pinned (.plain (OpenSpec.ofChange textBehindSpec)) textBehindCard

/-- THE TIED CARD OF 'forebaylaw13.TextEncodes'. -/
def textEncodesCard : Claim7 := { stood := { row := textEncodesRow, standIns := [], harness := (true, "5c9c435563f44f8d0c1ad8845ce53eb120e3c9c8ea6547443daebc432f69e1a7"), looks := true }, kinds := [], alts := [], laidByText := true, laidKinds := [.data, .data, .data, .data, .sentinel, .sentinel, .pinned], laidTests := true, laidLooks := .later }
def TextEncodesCardSaid : Prop := Claim7.holds Tryz.pinned (.plain (OpenSpec.ofChange textEncodesSpec)) textEncodesCard

/-- THE TIED CARD OF 'forebaylaw13.TextBack'. -/
def textBackCard : Claim7 := { stood := { row := textBackRow, standIns := [], harness := (true, "5c9c435563f44f8d0c1ad8845ce53eb120e3c9c8ea6547443daebc432f69e1a7"), looks := true }, kinds := [], alts := [], laidByText := true, laidKinds := [.data, .data, .data, .data, .sentinel, .sentinel, .pinned], laidTests := true, laidLooks := .later }
def TextBackCardSaid : Prop := Claim7.holds Tryz.pinned (.plain (OpenSpec.ofChange textBackSpec)) textBackCard

/-- THE SECOND FORM's CARD OF 'forebaylaw13.TextDecodes'. -/
def textDecodesUptoCard : Claim7 := { stood := { row := textDecodesUptoRow, standIns := [], harness := (true, "5c9c435563f44f8d0c1ad8845ce53eb120e3c9c8ea6547443daebc432f69e1a7"), looks := true }, kinds := [], alts := [], laidByText := true, laidKinds := [.data, .data, .data, .data, .sentinel, .sentinel, .pinned], laidTests := true, laidLooks := .later }
def TextDecodesUptoCardSaid : Prop := Claim7.holds Tryz.pinned (.plain (OpenSpec.upto textDecodesSpec)) textDecodesUptoCard

/-- THE SECOND FORM's CARD OF 'forebaylaw13.TextMany'. -/
def textManyUptoCard : Claim7 := { stood := { row := textManyUptoRow, standIns := [], harness := (true, "5c9c435563f44f8d0c1ad8845ce53eb120e3c9c8ea6547443daebc432f69e1a7"), looks := true }, kinds := [], alts := [], laidByText := true, laidKinds := [.data, .data, .data, .data, .sentinel, .sentinel, .pinned], laidTests := true, laidLooks := .later }
def TextManyUptoCardSaid : Prop := Claim7.holds Tryz.pinned (.plain (OpenSpec.upto textManySpec)) textManyUptoCard

/-- THE SECOND FORM's CARD OF 'forebaylaw13.TextLines'. -/
def textLinesUptoCard : Claim7 := { stood := { row := textLinesUptoRow, standIns := [], harness := (true, "5c9c435563f44f8d0c1ad8845ce53eb120e3c9c8ea6547443daebc432f69e1a7"), looks := true }, kinds := [], alts := [], laidByText := true, laidKinds := [.data, .data, .data, .data, .sentinel, .sentinel, .pinned], laidTests := true, laidLooks := .later }
def TextLinesUptoCardSaid : Prop := Claim7.holds Tryz.pinned (.plain (OpenSpec.upto textLinesSpec)) textLinesUptoCard

/-- THE SECOND FORM's CARD OF 'forebaylaw13.TextBehind'. -/
def textBehindUptoCard : Claim7 := { stood := { row := textBehindUptoRow, standIns := [], harness := (true, "5c9c435563f44f8d0c1ad8845ce53eb120e3c9c8ea6547443daebc432f69e1a7"), looks := true }, kinds := [], alts := [], laidByText := true, laidKinds := [.data, .data, .data, .data, .sentinel, .sentinel, .pinned], laidTests := true, laidLooks := .later }
def TextBehindUptoCardSaid : Prop := Claim7.holds Tryz.pinned (.plain (OpenSpec.upto textBehindSpec)) textBehindUptoCard

/-- THE SECOND FORM's CARD OF 'forebaylaw13.TextEncodes'. -/
def textEncodesUptoCard : Claim7 := { stood := { row := textEncodesUptoRow, standIns := [], harness := (true, "5c9c435563f44f8d0c1ad8845ce53eb120e3c9c8ea6547443daebc432f69e1a7"), looks := true }, kinds := [], alts := [], laidByText := true, laidKinds := [.data, .data, .data, .data, .sentinel, .sentinel, .pinned], laidTests := true, laidLooks := .later }
def TextEncodesUptoCardSaid : Prop := Claim7.holds Tryz.pinned (.plain (OpenSpec.upto textEncodesSpec)) textEncodesUptoCard

/-- THE SECOND FORM's CARD OF 'forebaylaw13.TextBack'. -/
def textBackUptoCard : Claim7 := { stood := { row := textBackUptoRow, standIns := [], harness := (true, "5c9c435563f44f8d0c1ad8845ce53eb120e3c9c8ea6547443daebc432f69e1a7"), looks := true }, kinds := [], alts := [], laidByText := true, laidKinds := [.data, .data, .data, .data, .sentinel, .sentinel, .pinned], laidTests := true, laidLooks := .later }
def TextBackUptoCardSaid : Prop := Claim7.holds Tryz.pinned (.plain (OpenSpec.upto textBackSpec)) textBackUptoCard
end Rows
end Go.Proofs.YtonhplejlfnkoaaGreatDoor
