/-
  DERIVED. GIVEN WITH THE SEED: THE CARDS: each row of YtfeonbdbigcdcaaGreatDoorRows.lean that lists a variable, with what it lists TIED to the program's text (the seventh form; the later family's looks); each row that meets fmt, with fmt's text TOLD by the authors' own Lean function (tested against real Go, not proved from fmt's source: count such statements apart). THE CARD IS WHAT COUNTS. Prove the row's statement (the work); the ties are given (YtfeonbdbigcdcaaGreatDoorTie.lean); close each card by the builder's one call (the guide's Derived/Test/ToyasCard.lean, 'card_holds'). Laid BY PROGRAM, IN A SANDBOX (cutbox-door.mjs). By AI agents, Wed Nov 11 2026. No macro, syntax, notation, axiom, sorry.
-/
import Derived.Test.YtfeonbdbigcdcaaGreatDoorRows
import GoSem.ClaimSeven
namespace Go.Proofs.YtfeonbdbigcdcaaGreatDoor
namespace Rows

/-- THE TIED CARD OF 'forebaylaw22.SessEnds'. -/
def sessEndsCard : Claim7 := { stood := { row := sessEndsRow, standIns := [], harness := (true, "eaf1e13bb40633edecfb77030a18791b04f0317f2bc8b24ae8a976d35e738be1"), looks := true }, kinds := [], alts := [], laidByText := true, laidKinds := [.data, .data, .data, .data, .sentinel, .sentinel, .pinned], laidTests := true, laidLooks := .later }
def SessEndsCardSaid : Prop := Claim7.holds Tryz.pinned (.plain (OpenSpec.ofChange sessEndsSpec)) sessEndsCard

/-- THE TIED CARD OF 'forebaylaw22.SessSoFar'. -/
def sessSoFarCard : Claim7 := { stood := { row := sessSoFarRow, standIns := [], harness := (true, "eaf1e13bb40633edecfb77030a18791b04f0317f2bc8b24ae8a976d35e738be1"), looks := true }, kinds := [], alts := [], laidByText := true, laidKinds := [.data, .data, .data, .data, .sentinel, .sentinel, .pinned], laidTests := true, laidLooks := .later }
def SessSoFarCardSaid : Prop := Claim7.holds Tryz.pinned (.plain (OpenSpec.ofChange sessSoFarSpec)) sessSoFarCard

/-- THE TIED CARD OF 'forebaylaw22.SessCuts'. -/
def sessCutsCard : Claim7 := { stood := { row := sessCutsRow, standIns := [], harness := (true, "eaf1e13bb40633edecfb77030a18791b04f0317f2bc8b24ae8a976d35e738be1"), looks := true }, kinds := [], alts := [], laidByText := true, laidKinds := [.data, .data, .data, .data, .sentinel, .sentinel, .pinned], laidTests := true, laidLooks := .later }
def SessCutsCardSaid : Prop := Claim7.holds Tryz.pinned (.plain (OpenSpec.ofChange sessCutsSpec)) sessCutsCard

/-- THE TIED CARD OF 'forebaylaw22.SessTells'. -/
def sessTellsCard : Claim7 := { stood := { row := sessTellsRow, standIns := [], harness := (true, "eaf1e13bb40633edecfb77030a18791b04f0317f2bc8b24ae8a976d35e738be1"), looks := true }, kinds := [], alts := [], laidByText := true, laidKinds := [.data, .data, .data, .data, .sentinel, .sentinel, .pinned], laidTests := true, laidLooks := .later }
def SessTellsCardSaid : Prop := Claim7.holds Tryz.pinned (.plain (OpenSpec.ofChange sessTellsSpec)) sessTellsCard

/-- THE SECOND FORM's CARD OF 'forebaylaw22.SessEnds'. -/
def sessEndsUptoCard : Claim7 := { stood := { row := sessEndsUptoRow, standIns := [], harness := (true, "eaf1e13bb40633edecfb77030a18791b04f0317f2bc8b24ae8a976d35e738be1"), looks := true }, kinds := [], alts := [], laidByText := true, laidKinds := [.data, .data, .data, .data, .sentinel, .sentinel, .pinned], laidTests := true, laidLooks := .later }
def SessEndsUptoCardSaid : Prop := Claim7.holds Tryz.pinned (.plain (OpenSpec.upto sessEndsSpec)) sessEndsUptoCard

/-- THE SECOND FORM's CARD OF 'forebaylaw22.SessSoFar'. -/
def sessSoFarUptoCard : Claim7 := { stood := { row := sessSoFarUptoRow, standIns := [], harness := (true, "eaf1e13bb40633edecfb77030a18791b04f0317f2bc8b24ae8a976d35e738be1"), looks := true }, kinds := [], alts := [], laidByText := true, laidKinds := [.data, .data, .data, .data, .sentinel, .sentinel, .pinned], laidTests := true, laidLooks := .later }
def SessSoFarUptoCardSaid : Prop := Claim7.holds Tryz.pinned (.plain (OpenSpec.upto sessSoFarSpec)) sessSoFarUptoCard

/-- THE SECOND FORM's CARD OF 'forebaylaw22.SessCuts'. -/
def sessCutsUptoCard : Claim7 := { stood := { row := sessCutsUptoRow, standIns := [], harness := (true, "eaf1e13bb40633edecfb77030a18791b04f0317f2bc8b24ae8a976d35e738be1"), looks := true }, kinds := [], alts := [], laidByText := true, laidKinds := [.data, .data, .data, .data, .sentinel, .sentinel, .pinned], laidTests := true, laidLooks := .later }
def SessCutsUptoCardSaid : Prop := Claim7.holds Tryz.pinned (.plain (OpenSpec.upto sessCutsSpec)) sessCutsUptoCard

/-- THE SECOND FORM's CARD OF 'forebaylaw22.SessTells'. -/
def sessTellsUptoCard : Claim7 := { stood := { row := sessTellsUptoRow, standIns := [], harness := (true, "eaf1e13bb40633edecfb77030a18791b04f0317f2bc8b24ae8a976d35e738be1"), looks := true }, kinds := [], alts := [], laidByText := true, laidKinds := [.data, .data, .data, .data, .sentinel, .sentinel, .pinned], laidTests := true, laidLooks := .later }
def SessTellsUptoCardSaid : Prop := Claim7.holds Tryz.pinned (.plain (OpenSpec.upto sessTellsSpec)) sessTellsUptoCard
end Rows
end Go.Proofs.YtfeonbdbigcdcaaGreatDoor
