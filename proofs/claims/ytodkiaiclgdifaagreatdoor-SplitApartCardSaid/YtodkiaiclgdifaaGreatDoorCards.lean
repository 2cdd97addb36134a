/-
  DERIVED. GIVEN WITH THE SEED: THE CARDS: each row of YtodkiaiclgdifaaGreatDoorRows.lean that lists a variable, with what it lists TIED to the program's text (the seventh form; the later family's looks); each row that meets fmt, with fmt's text TOLD by the authors' own Lean function (tested against real Go, not proved from fmt's source: count such statements apart). THE CARD IS WHAT COUNTS. Prove the row's statement (the work); the ties are given (YtodkiaiclgdifaaGreatDoorTie.lean); close each card by the builder's one call (the guide's Derived/Test/ToyasCard.lean, 'card_holds'). Laid BY PROGRAM, IN A SANDBOX (cutbox-door.mjs). By AI agents, Wed Nov 11 2026. No macro, syntax, notation, axiom, sorry.
-/
import Derived.Test.YtodkiaiclgdifaaGreatDoorRows
import GoSem.ClaimSeven
namespace Go.Proofs.YtodkiaiclgdifaaGreatDoor
namespace Rows

/-- THE TIED CARD OF 'forebaylaw20.SplitApart'. -/
def splitApartCard : Claim7 := { stood := { row := splitApartRow, standIns := [], harness := (true, "b1e29c332cecc46df9610bd57bbc75e7068022e71089b3979a6f75f75ee63b64"), looks := true }, kinds := [], alts := [], laidByText := true, laidKinds := [.data, .data, .data, .data, .sentinel, .sentinel, .pinned], laidTests := true, laidLooks := .later }
def SplitApartCardSaid : Prop := Claim7.holds Tryz.pinned (.plain (OpenSpec.ofChange splitApartSpec)) splitApartCard

/-- THE SECOND FORM's CARD OF 'forebaylaw20.SplitApart'. -/
def splitApartUptoCard : Claim7 := { stood := { row := splitApartUptoRow, standIns := [], harness := (true, "b1e29c332cecc46df9610bd57bbc75e7068022e71089b3979a6f75f75ee63b64"), looks := true }, kinds := [], alts := [], laidByText := true, laidKinds := [.data, .data, .data, .data, .sentinel, .sentinel, .pinned], laidTests := true, laidLooks := .later }
def SplitApartUptoCardSaid : Prop := Claim7.holds Tryz.pinned (.plain (OpenSpec.upto splitApartSpec)) splitApartUptoCard
end Rows
end Go.Proofs.YtodkiaiclgdifaaGreatDoor
