/-
  DERIVED. GIVEN WITH THE SEED: THE CARDS: each row of YthpnjohdecdlkaaGreatDoorRows.lean that lists a variable, with what it lists TIED to the program's text (the seventh form; the later family's looks); each row that meets fmt, with fmt's text TOLD by the authors' own Lean function (tested against real Go, not proved from fmt's source: count such statements apart). THE CARD IS WHAT COUNTS. Prove the row's statement (the work); the ties are given (YthpnjohdecdlkaaGreatDoorTie.lean); close each card by the builder's one call (the guide's Derived/Test/ToyasCard.lean, 'card_holds'). Laid BY PROGRAM, IN A SANDBOX (cutbox-door.mjs). By AI agents, Wed Nov 11 2026. No macro, syntax, notation, axiom, sorry.
-/
import Derived.Test.YthpnjohdecdlkaaGreatDoorRows
import GoSem.ClaimSeven
namespace Go.Proofs.YthpnjohdecdlkaaGreatDoor
namespace Rows

/-- THE TIED CARD OF 'forebaylaw20.SplitBatches'. -/
def splitBatchesCard : Claim7 := { stood := { row := splitBatchesRow, standIns := [], harness := (true, "a25354b8f71f1ec9b841c001b2ecf4805110b7ba629c99d016c8a0c25a94138c"), looks := true }, kinds := [], alts := [], laidByText := true, laidKinds := [.data, .data, .data, .data, .sentinel, .sentinel, .pinned], laidTests := true, laidLooks := .later }
def SplitBatchesCardSaid : Prop := Claim7.holds Tryz.pinned (.plain (OpenSpec.ofChange splitBatchesSpec)) splitBatchesCard

/-- THE SECOND FORM's CARD OF 'forebaylaw20.SplitBatches'. -/
def splitBatchesUptoCard : Claim7 := { stood := { row := splitBatchesUptoRow, standIns := [], harness := (true, "a25354b8f71f1ec9b841c001b2ecf4805110b7ba629c99d016c8a0c25a94138c"), looks := true }, kinds := [], alts := [], laidByText := true, laidKinds := [.data, .data, .data, .data, .sentinel, .sentinel, .pinned], laidTests := true, laidLooks := .later }
def SplitBatchesUptoCardSaid : Prop := Claim7.holds Tryz.pinned (.plain (OpenSpec.upto splitBatchesSpec)) splitBatchesUptoCard
end Rows
end Go.Proofs.YthpnjohdecdlkaaGreatDoor
