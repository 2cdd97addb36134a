/-
  DERIVED. GIVEN WITH THE SEED: THE CARDS: each row of YtihjdbcmbpoifaaGreatDoorRows.lean that lists a variable, with what it lists TIED to the program's text (the seventh form; the later family's looks); each row that meets fmt, with fmt's text TOLD by the authors' own Lean function (tested against real Go, not proved from fmt's source: count such statements apart). THE CARD IS WHAT COUNTS. Prove the row's statement (the work); the ties are given (YtihjdbcmbpoifaaGreatDoorTie.lean); close each card by the builder's one call (the guide's Derived/Test/ToyasCard.lean, 'card_holds'). Laid BY PROGRAM, IN A SANDBOX (cutbox-door.mjs). By AI agents, Wed Nov 11 2026. No macro, syntax, notation, axiom, sorry.
-/
import Derived.Test.YtihjdbcmbpoifaaGreatDoorRows
import GoSem.ClaimSeven
namespace Go.Proofs.YtihjdbcmbpoifaaGreatDoor
namespace Rows

/-- THE TIED CARD OF 'forebaylaw10.StatsdLines'. -/
def statsdLinesCard : Claim7 := { stood := { row := statsdLinesRow, standIns := [], harness := (true, "5cb4eaba1a51c6cb4960a1f93d68505bcd25c7a0fe631072e37ac072d70d4d8b"), looks := false }, kinds := [], alts := [], laidByText := true, laidKinds := [.data, .data, .data, .data, .pinned], laidTests := true, laidLooks := .later }
def StatsdLinesCardSaid : Prop := Claim7.holds Tryz.pinned (.plain (OpenSpec.ofChange statsdLinesSpec)) statsdLinesCard

/-- THE TIED CARD OF 'forebaylaw10.StatsdParses'. -/
def statsdParsesCard : Claim7 := { stood := { row := statsdParsesRow, standIns := [], harness := (true, "5cb4eaba1a51c6cb4960a1f93d68505bcd25c7a0fe631072e37ac072d70d4d8b"), looks := false }, kinds := [], alts := [], laidByText := true, laidKinds := [.data, .data, .data, .data, .pinned], laidTests := true, laidLooks := .later }
def StatsdParsesCardSaid : Prop := Claim7.holds Tryz.pinned (.plain (OpenSpec.ofChange statsdParsesSpec)) statsdParsesCard

/-- THE TIED CARD OF 'forebaylaw10.StatsdWords'. -/
def statsdWordsCard : Claim7 := { stood := { row := statsdWordsRow, standIns := [], harness := (true, "5cb4eaba1a51c6cb4960a1f93d68505bcd25c7a0fe631072e37ac072d70d4d8b"), looks := false }, kinds := [], alts := [], laidByText := true, laidKinds := [.data, .data, .data, .data, .pinned], laidTests := true, laidLooks := .later }
def StatsdWordsCardSaid : Prop := Claim7.holds Tryz.pinned (.plain (OpenSpec.ofChange statsdWordsSpec)) statsdWordsCard

/-- THE TIED CARD OF 'forebaylaw10.StatsdForms'. -/
def statsdFormsCard : Claim7 := { stood := { row := statsdFormsRow, standIns := [], harness := (true, "5cb4eaba1a51c6cb4960a1f93d68505bcd25c7a0fe631072e37ac072d70d4d8b"), looks := false }, kinds := [], alts := [], laidByText := true, laidKinds := [.data, .data, .data, .data, .pinned], laidTests := true, laidLooks := .later }
def StatsdFormsCardSaid : Prop := Claim7.holds Tryz.pinned (.plain (OpenSpec.ofChange statsdFormsSpec)) statsdFormsCard

/-- THE TIED CARD OF 'forebaylaw10.StatsdBehind'. -/
def statsdBehindCard : Claim7 := { stood := { row := statsdBehindRow, standIns := [], harness := (true, "5cb4eaba1a51c6cb4960a1f93d68505bcd25c7a0fe631072e37ac072d70d4d8b"), looks := false }, kinds := [], alts := [], laidByText := true, laidKinds := [.data, .data, .data, .data, .pinned], laidTests := true, laidLooks := .later }
def StatsdBehindCardSaid : Prop := Claim7.holds Tryz.pinned (.plain (OpenSpec.ofChange statsdBehindSpec)) statsdBehindCard

/-- THE TIED CARD OF 'forebaylaw10.StatsdBack'. -/
def statsdBackCard : Claim7 := { stood := { row := statsdBackRow, standIns := [], harness := (true, "5cb4eaba1a51c6cb4960a1f93d68505bcd25c7a0fe631072e37ac072d70d4d8b"), looks := false }, kinds := [], alts := [], laidByText := true, laidKinds := [.data, .data, .data, .data, .pinned], laidTests := true, laidLooks := .later }
def StatsdBackCardSaid : Prop := Claim7.holds Tryz.pinned (.plain (OpenSpec.ofChange statsdBackSpec)) statsdBackCard

/-- THE SECOND FORM's CARD OF 'forebaylaw10.StatsdLines'. -/
def statsdLinesUptoCard : Claim7 := { stood := { row := statsdLinesUptoRow, standIns := [], harness := (true, "5cb4eaba1a51c6cb4960a1f93d68505bcd25c7a0fe631072e37ac072d70d4d8b"), looks := false }, kinds := [], alts := [], laidByText := true, laidKinds := [.data, .data, .data, .data, .pinned], laidTests := true, laidLooks := .later }
def StatsdLinesUptoCardSaid : Prop := Claim7.holds Tryz.pinned (.plain (OpenSpec.upto statsdLinesSpec)) statsdLinesUptoCard

/-- THE SECOND FORM's CARD OF 'forebaylaw10.StatsdParses'. -/
def statsdParsesUptoCard : Claim7 := { stood := { row := statsdParsesUptoRow, standIns := [], harness := (true, "5cb4eaba1a51c6cb4960a1f93d68505bcd25c7a0fe631072e37ac072d70d4d8b"), looks := false }, kinds := [], alts := [], laidByText := true, laidKinds := [.data, .data, .data, .data, .pinned], laidTests := true, laidLooks := .later }
def StatsdParsesUptoCardSaid : Prop := Claim7.holds Tryz.pinned (.plain (OpenSpec.upto statsdParsesSpec)) statsdParsesUptoCard

/-- THE SECOND FORM's CARD OF 'forebaylaw10.StatsdWords'. -/
def statsdWordsUptoCard : Claim7 := { stood := { row := statsdWordsUptoRow, standIns := [], harness := (true, "5cb4eaba1a51c6cb4960a1f93d68505bcd25c7a0fe631072e37ac072d70d4d8b"), looks := false }, kinds := [], alts := [], laidByText := true, laidKinds := [.data, .data, .data, .data, .pinned], laidTests := true, laidLooks := .later }
def StatsdWordsUptoCardSaid : Prop := Claim7.holds Tryz.pinned (.plain (OpenSpec.upto statsdWordsSpec)) statsdWordsUptoCard

/-- THE SECOND FORM's CARD OF 'forebaylaw10.StatsdForms'. -/
def statsdFormsUptoCard : Claim7 := { stood := { row := statsdFormsUptoRow, standIns := [], harness := (true, "5cb4eaba1a51c6cb4960a1f93d68505bcd25c7a0fe631072e37ac072d70d4d8b"), looks := false }, kinds := [], alts := [], laidByText := true, laidKinds := [.data, .data, .data, .data, .pinned], laidTests := true, laidLooks := .later }
def StatsdFormsUptoCardSaid : Prop := Claim7.holds Tryz.pinned (.plain (OpenSpec.upto statsdFormsSpec)) statsdFormsUptoCard

/-- THE SECOND FORM's CARD OF 'forebaylaw10.StatsdBehind'. -/
def statsdBehindUptoCard : Claim7 := { stood := { row := statsdBehindUptoRow, standIns := [], harness := (true, "5cb4eaba1a51c6cb4960a1f93d68505bcd25c7a0fe631072e37ac072d70d4d8b"), looks := false }, kinds := [], alts := [], laidByText := true, laidKinds := [.data, .data, .data, .data, .pinned], laidTests := true, laidLooks := .later }
def StatsdBehindUptoCardSaid : Prop := Claim7.holds Tryz.pinned (.plain (OpenSpec.upto statsdBehindSpec)) statsdBehindUptoCard

/-- THE SECOND FORM's CARD OF 'forebaylaw10.StatsdBack'. -/
def statsdBackUptoCard : Claim7 := { stood := { row := statsdBackUptoRow, standIns := [], harness := (true, "5cb4eaba1a51c6cb4960a1f93d68505bcd25c7a0fe631072e37ac072d70d4d8b"), looks := false }, kinds := [], alts := [], laidByText := true, laidKinds := [.data, .data, .data, .data, .pinned], laidTests := true, laidLooks := .later }
def StatsdBackUptoCardSaid : Prop := Claim7.holds Tryz.pinned (.plain (OpenSpec.upto statsdBackSpec)) statsdBackUptoCard
end Rows
end Go.Proofs.YtihjdbcmbpoifaaGreatDoor
