/-
  DERIVED. GIVEN WITH THE SEED: THE CARDS: each row of YtglkcdjgnmegmaaGreatDoorRows.lean that lists a variable, with what it lists TIED to the program's text (the seventh form; the later family's looks); each row that meets fmt, with fmt's text TOLD by the authors' own Lean function (tested against real Go, not proved from fmt's source: count such statements apart). THE CARD IS WHAT COUNTS. Prove the row's statement (the work); the ties are given (YtglkcdjgnmegmaaGreatDoorTie.lean); close each card by the builder's one call (the guide's Derived/Test/ToyasCard.lean, 'card_holds'). Laid BY PROGRAM, IN A SANDBOX (cutbox-door.mjs). By AI agents, Wed Nov 11 2026. No macro, syntax, notation, axiom, sorry.
-/
import Derived.Test.YtglkcdjgnmegmaaGreatDoorRows
import GoSem.ClaimSeven
namespace Go.Proofs.YtglkcdjgnmegmaaGreatDoor
namespace Rows

/-- THE TIED CARD OF 'forebaylaw12.GraphiteLines'. -/
def graphiteLinesCard : Claim7 := { stood := { row := graphiteLinesRow, standIns := [], harness := (true, "1db61a55c07df7b6f0363537ae1ae8104b6620e5aa1e0e9bb0ed24aa45f1bbea"), looks := true }, kinds := [], alts := [], laidByText := true, laidKinds := [.data, .data, .data, .data, .sentinel, .sentinel, .pinned], laidTests := true, laidLooks := .later }
def GraphiteLinesCardSaid : Prop := Claim7.holds Tryz.pinned (.plain (OpenSpec.ofChange graphiteLinesSpec)) graphiteLinesCard

/-- THE TIED CARD OF 'forebaylaw12.GraphiteParses'. -/
def graphiteParsesCard : Claim7 := { stood := { row := graphiteParsesRow, standIns := [], harness := (true, "1db61a55c07df7b6f0363537ae1ae8104b6620e5aa1e0e9bb0ed24aa45f1bbea"), looks := true }, kinds := [], alts := [], laidByText := true, laidKinds := [.data, .data, .data, .data, .sentinel, .sentinel, .pinned], laidTests := true, laidLooks := .later }
def GraphiteParsesCardSaid : Prop := Claim7.holds Tryz.pinned (.plain (OpenSpec.ofChange graphiteParsesSpec)) graphiteParsesCard

/-- THE TIED CARD OF 'forebaylaw12.GraphiteCut'. -/
def graphiteCutCard : Claim7 := { stood := { row := graphiteCutRow, standIns := [], harness := (true, "1db61a55c07df7b6f0363537ae1ae8104b6620e5aa1e0e9bb0ed24aa45f1bbea"), looks := true }, kinds := [], alts := [], laidByText := true, laidKinds := [.data, .data, .data, .data, .sentinel, .sentinel, .pinned], laidTests := true, laidLooks := .later }
def GraphiteCutCardSaid : Prop := Claim7.holds Tryz.pinned (.plain (OpenSpec.ofChange graphiteCutSpec)) graphiteCutCard

/-- THE TIED CARD OF 'forebaylaw12.GraphiteParts'. -/
def graphitePartsCard : Claim7 := { stood := { row := graphitePartsRow, standIns := [], harness := (true, "1db61a55c07df7b6f0363537ae1ae8104b6620e5aa1e0e9bb0ed24aa45f1bbea"), looks := true }, kinds := [], alts := [], laidByText := true, laidKinds := [.data, .data, .data, .data, .sentinel, .sentinel, .pinned], laidTests := true, laidLooks := .later }
def GraphitePartsCardSaid : Prop := Claim7.holds Tryz.pinned (.plain (OpenSpec.ofChange graphitePartsSpec)) graphitePartsCard

/-- THE TIED CARD OF 'forebaylaw12.GraphiteBack'. -/
def graphiteBackCard : Claim7 := { stood := { row := graphiteBackRow, standIns := [], harness := (true, "1db61a55c07df7b6f0363537ae1ae8104b6620e5aa1e0e9bb0ed24aa45f1bbea"), looks := true }, kinds := [], alts := [], laidByText := true, laidKinds := [.data, .data, .data, .data, .sentinel, .sentinel, .pinned], laidTests := true, laidLooks := .later }
def GraphiteBackCardSaid : Prop := Claim7.holds Tryz.pinned (.plain (OpenSpec.ofChange graphiteBackSpec)) graphiteBackCard

/-- THE SECOND FORM's CARD OF 'forebaylaw12.GraphiteLines'. -/
def graphiteLinesUptoCard : Claim7 := { stood := { row := graphiteLinesUptoRow, standIns := [], harness := (true, "1db61a55c07df7b6f0363537ae1ae8104b6620e5aa1e0e9bb0ed24aa45f1bbea"), looks := true }, kinds := [], alts := [], laidByText := true, laidKinds := [.data, .data, .data, .data, .sentinel, .sentinel, .pinned], laidTests := true, laidLooks := .later }
def GraphiteLinesUptoCardSaid : Prop := Claim7.holds Tryz.pinned (.plain (OpenSpec.upto graphiteLinesSpec)) graphiteLinesUptoCard

/-- THE SECOND FORM's CARD OF 'forebaylaw12.GraphiteParses'. -/
def graphiteParsesUptoCard : Claim7 := { stood := { row := graphiteParsesUptoRow, standIns := [], harness := (true, "1db61a55c07df7b6f0363537ae1ae8104b6620e5aa1e0e9bb0ed24aa45f1bbea"), looks := true }, kinds := [], alts := [], laidByText := true, laidKinds := [.data, .data, .data, .data, .sentinel, .sentinel, .pinned], laidTests := true, laidLooks := .later }
def GraphiteParsesUptoCardSaid : Prop := Claim7.holds Tryz.pinned (.plain (OpenSpec.upto graphiteParsesSpec)) graphiteParsesUptoCard

/-- THE SECOND FORM's CARD OF 'forebaylaw12.GraphiteCut'. -/
def graphiteCutUptoCard : Claim7 := { stood := { row := graphiteCutUptoRow, standIns := [], harness := (true, "1db61a55c07df7b6f0363537ae1ae8104b6620e5aa1e0e9bb0ed24aa45f1bbea"), looks := true }, kinds := [], alts := [], laidByText := true, laidKinds := [.data, .data, .data, .data, .sentinel, .sentinel, .pinned], laidTests := true, laidLooks := .later }
def GraphiteCutUptoCardSaid : Prop := Claim7.holds Tryz.pinned (.plain (OpenSpec.upto graphiteCutSpec)) graphiteCutUptoCard

/-- THE SECOND FORM's CARD OF 'forebaylaw12.GraphiteParts'. -/
def graphitePartsUptoCard : Claim7 := { stood := { row := graphitePartsUptoRow, standIns := [], harness := (true, "1db61a55c07df7b6f0363537ae1ae8104b6620e5aa1e0e9bb0ed24aa45f1bbea"), looks := true }, kinds := [], alts := [], laidByText := true, laidKinds := [.data, .data, .data, .data, .sentinel, .sentinel, .pinned], laidTests := true, laidLooks := .later }
def GraphitePartsUptoCardSaid : Prop := Claim7.holds Tryz.pinned (.plain (OpenSpec.upto graphitePartsSpec)) graphitePartsUptoCard

/-- THE SECOND FORM's CARD OF 'forebaylaw12.GraphiteBack'. -/
def graphiteBackUptoCard : Claim7 := { stood := { row := graphiteBackUptoRow, standIns := [], harness := (true, "1db61a55c07df7b6f0363537ae1ae8104b6620e5aa1e0e9bb0ed24aa45f1bbea"), looks := true }, kinds := [], alts := [], laidByText := true, laidKinds := [.data, .data, .data, .data, .sentinel, .sentinel, .pinned], laidTests := true, laidLooks := .later }
def GraphiteBackUptoCardSaid : Prop := Claim7.holds Tryz.pinned (.plain (OpenSpec.upto graphiteBackSpec)) graphiteBackUptoCard
end Rows
end Go.Proofs.YtglkcdjgnmegmaaGreatDoor
