/-
  DERIVED. GIVEN WITH THE SEED: THE CARDS: each row of YtgkhaoohkeblfaaGreatDoorRows.lean that lists a variable, with what it lists TIED to the program's text (the seventh form; the later family's looks); each row that meets fmt, with fmt's text TOLD by the authors' own Lean function (tested against real Go, not proved from fmt's source: count such statements apart). THE CARD IS WHAT COUNTS. Prove the row's statement (the work); the ties are given (YtgkhaoohkeblfaaGreatDoorTie.lean); close each card by the builder's one call (the guide's Derived/Test/ToyasCard.lean, 'card_holds'). Laid BY PROGRAM, IN A SANDBOX (cutbox-door.mjs). By AI agents, Wed Nov 11 2026. No macro, syntax, notation, axiom, sorry.
-/
import Derived.Test.YtgkhaoohkeblfaaGreatDoorRows
import GoSem.ClaimSeven
namespace Go.Proofs.YtgkhaoohkeblfaaGreatDoor
namespace Rows

/-- THE TIED CARD OF 'forebaylaw11.DogWords'. -/
def dogWordsCard : Claim7 := { stood := { row := dogWordsRow, standIns := [], harness := (true, "6807e5434aa2f648d5a11142ea76a5ba3c5778d41d9c70ab0f8c7bc650dda75b"), looks := true }, kinds := [], alts := [], laidByText := true, laidKinds := [.data, .data, .data, .data, .sentinel, .sentinel, .pinned], laidTests := true, laidLooks := .later }
def DogWordsCardSaid : Prop := Claim7.holds Tryz.pinned (.plain (OpenSpec.ofChange dogWordsSpec)) dogWordsCard

/-- THE TIED CARD OF 'forebaylaw11.DogLines'. -/
def dogLinesCard : Claim7 := { stood := { row := dogLinesRow, standIns := [], harness := (true, "6807e5434aa2f648d5a11142ea76a5ba3c5778d41d9c70ab0f8c7bc650dda75b"), looks := true }, kinds := [], alts := [], laidByText := true, laidKinds := [.data, .data, .data, .data, .sentinel, .sentinel, .pinned], laidTests := true, laidLooks := .later }
def DogLinesCardSaid : Prop := Claim7.holds Tryz.pinned (.plain (OpenSpec.ofChange dogLinesSpec)) dogLinesCard

/-- THE TIED CARD OF 'forebaylaw11.DogParses'. -/
def dogParsesCard : Claim7 := { stood := { row := dogParsesRow, standIns := [], harness := (true, "6807e5434aa2f648d5a11142ea76a5ba3c5778d41d9c70ab0f8c7bc650dda75b"), looks := true }, kinds := [], alts := [], laidByText := true, laidKinds := [.data, .data, .data, .data, .sentinel, .sentinel, .pinned], laidTests := true, laidLooks := .later }
def DogParsesCardSaid : Prop := Claim7.holds Tryz.pinned (.plain (OpenSpec.ofChange dogParsesSpec)) dogParsesCard

/-- THE TIED CARD OF 'forebaylaw11.DogPieces'. -/
def dogPiecesCard : Claim7 := { stood := { row := dogPiecesRow, standIns := [], harness := (true, "6807e5434aa2f648d5a11142ea76a5ba3c5778d41d9c70ab0f8c7bc650dda75b"), looks := true }, kinds := [], alts := [], laidByText := true, laidKinds := [.data, .data, .data, .data, .sentinel, .sentinel, .pinned], laidTests := true, laidLooks := .later }
def DogPiecesCardSaid : Prop := Claim7.holds Tryz.pinned (.plain (OpenSpec.ofChange dogPiecesSpec)) dogPiecesCard

/-- THE TIED CARD OF 'forebaylaw11.DogApart'. -/
def dogApartCard : Claim7 := { stood := { row := dogApartRow, standIns := [], harness := (true, "6807e5434aa2f648d5a11142ea76a5ba3c5778d41d9c70ab0f8c7bc650dda75b"), looks := true }, kinds := [], alts := [], laidByText := true, laidKinds := [.data, .data, .data, .data, .sentinel, .sentinel, .pinned], laidTests := true, laidLooks := .later }
def DogApartCardSaid : Prop := Claim7.holds Tryz.pinned (.plain (OpenSpec.ofChange dogApartSpec)) dogApartCard

/-- THE TIED CARD OF 'forebaylaw11.DogBack'. -/
def dogBackCard : Claim7 := { stood := { row := dogBackRow, standIns := [], harness := (true, "6807e5434aa2f648d5a11142ea76a5ba3c5778d41d9c70ab0f8c7bc650dda75b"), looks := true }, kinds := [], alts := [], laidByText := true, laidKinds := [.data, .data, .data, .data, .sentinel, .sentinel, .pinned], laidTests := true, laidLooks := .later }
def DogBackCardSaid : Prop := Claim7.holds Tryz.pinned (.plain (OpenSpec.ofChange dogBackSpec)) dogBackCard

/-- THE SECOND FORM's CARD OF 'forebaylaw11.DogWords'. -/
def dogWordsUptoCard : Claim7 := { stood := { row := dogWordsUptoRow, standIns := [], harness := (true, "6807e5434aa2f648d5a11142ea76a5ba3c5778d41d9c70ab0f8c7bc650dda75b"), looks := true }, kinds := [], alts := [], laidByText := true, laidKinds := [.data, .data, .data, .data, .sentinel, .sentinel, .pinned], laidTests := true, laidLooks := .later }
def DogWordsUptoCardSaid : Prop := Claim7.holds Tryz.pinned (.plain (OpenSpec.upto dogWordsSpec)) dogWordsUptoCard

/-- THE SECOND FORM's CARD OF 'forebaylaw11.DogLines'. -/
def dogLinesUptoCard : Claim7 := { stood := { row := dogLinesUptoRow, standIns := [], harness := (true, "6807e5434aa2f648d5a11142ea76a5ba3c5778d41d9c70ab0f8c7bc650dda75b"), looks := true }, kinds := [], alts := [], laidByText := true, laidKinds := [.data, .data, .data, .data, .sentinel, .sentinel, .pinned], laidTests := true, laidLooks := .later }
def DogLinesUptoCardSaid : Prop := Claim7.holds Tryz.pinned (.plain (OpenSpec.upto dogLinesSpec)) dogLinesUptoCard

/-- THE SECOND FORM's CARD OF 'forebaylaw11.DogParses'. -/
def dogParsesUptoCard : Claim7 := { stood := { row := dogParsesUptoRow, standIns := [], harness := (true, "6807e5434aa2f648d5a11142ea76a5ba3c5778d41d9c70ab0f8c7bc650dda75b"), looks := true }, kinds := [], alts := [], laidByText := true, laidKinds := [.data, .data, .data, .data, .sentinel, .sentinel, .pinned], laidTests := true, laidLooks := .later }
def DogParsesUptoCardSaid : Prop := Claim7.holds Tryz.pinned (.plain (OpenSpec.upto dogParsesSpec)) dogParsesUptoCard

/-- THE SECOND FORM's CARD OF 'forebaylaw11.DogPieces'. -/
def dogPiecesUptoCard : Claim7 := { stood := { row := dogPiecesUptoRow, standIns := [], harness := (true, "6807e5434aa2f648d5a11142ea76a5ba3c5778d41d9c70ab0f8c7bc650dda75b"), looks := true }, kinds := [], alts := [], laidByText := true, laidKinds := [.data, .data, .data, .data, .sentinel, .sentinel, .pinned], laidTests := true, laidLooks := .later }
def DogPiecesUptoCardSaid : Prop := Claim7.holds Tryz.pinned (.plain (OpenSpec.upto dogPiecesSpec)) dogPiecesUptoCard

/-- THE SECOND FORM's CARD OF 'forebaylaw11.DogApart'. -/
def dogApartUptoCard : Claim7 := { stood := { row := dogApartUptoRow, standIns := [], harness := (true, "6807e5434aa2f648d5a11142ea76a5ba3c5778d41d9c70ab0f8c7bc650dda75b"), looks := true }, kinds := [], alts := [], laidByText := true, laidKinds := [.data, .data, .data, .data, .sentinel, .sentinel, .pinned], laidTests := true, laidLooks := .later }
def DogApartUptoCardSaid : Prop := Claim7.holds Tryz.pinned (.plain (OpenSpec.upto dogApartSpec)) dogApartUptoCard

/-- THE SECOND FORM's CARD OF 'forebaylaw11.DogBack'. -/
def dogBackUptoCard : Claim7 := { stood := { row := dogBackUptoRow, standIns := [], harness := (true, "6807e5434aa2f648d5a11142ea76a5ba3c5778d41d9c70ab0f8c7bc650dda75b"), looks := true }, kinds := [], alts := [], laidByText := true, laidKinds := [.data, .data, .data, .data, .sentinel, .sentinel, .pinned], laidTests := true, laidLooks := .later }
def DogBackUptoCardSaid : Prop := Claim7.holds Tryz.pinned (.plain (OpenSpec.upto dogBackSpec)) dogBackUptoCard
end Rows
end Go.Proofs.YtgkhaoohkeblfaaGreatDoor
