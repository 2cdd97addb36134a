/-
  DERIVED. GIVEN WITH THE SEED: THE CARDS: each row of YtckofkijjcbcoaaDoorRows.lean that lists a variable, with what it lists TIED to the program's text (the seventh form; the later family's looks); each row that meets fmt, with fmt's text TOLD by the authors' own Lean function (tested against real Go, not proved from fmt's source: count such statements apart). THE CARD IS WHAT COUNTS. Prove the row's statement (the work); the ties are given (YtckofkijjcbcoaaDoorTie.lean); close each card by the builder's one call (the guide's Derived/Test/ToyasCard.lean, 'card_holds'). Laid BY PROGRAM, IN A SANDBOX (cutbox-door.mjs). By AI agents, Wed Nov 11 2026. No macro, syntax, notation, axiom, sorry.
-/
import Derived.Test.YtckofkijjcbcoaaDoorRows
import GoSem.ClaimSeven
namespace Go.Proofs.YtckofkijjcbcoaaDoor
namespace Rows

/-- THE TIED CARD OF 'forebaylaw03.DecNormals'. -/
def decNormalsCard : Claim7 := { stood := { row := decNormalsRow, standIns := [], harness := (true, "cb3397420e479f667f36dcf1758fa2cdba0d3080dd67d5f985f786de3828bc7c"), looks := false }, kinds := [], alts := [], laidByText := true, laidKinds := [.data, .data, .data, .data, .pinned], laidTests := true, laidLooks := .later }
def DecNormalsCardSaid : Prop := Claim7.holds Tryd.pinned (.plain (OpenSpec.ofChange decNormalsSpec)) decNormalsCard

/-- THE TIED CARD OF 'forebaylaw03.DecParses'. -/
def decParsesCard : Claim7 := { stood := { row := decParsesRow, standIns := [], harness := (true, "cb3397420e479f667f36dcf1758fa2cdba0d3080dd67d5f985f786de3828bc7c"), looks := false }, kinds := [], alts := [], laidByText := true, laidKinds := [.data, .data, .data, .data, .pinned], laidTests := true, laidLooks := .later }
def DecParsesCardSaid : Prop := Claim7.holds Tryd.pinned (.plain (OpenSpec.ofChange decParsesSpec)) decParsesCard

/-- THE TIED CARD OF 'forebaylaw03.DecBack'. -/
def decBackCard : Claim7 := { stood := { row := decBackRow, standIns := [], harness := (true, "cb3397420e479f667f36dcf1758fa2cdba0d3080dd67d5f985f786de3828bc7c"), looks := false }, kinds := [], alts := [], laidByText := true, laidKinds := [.data, .data, .data, .data, .pinned], laidTests := true, laidLooks := .later }
def DecBackCardSaid : Prop := Claim7.holds Tryd.pinned (.plain (OpenSpec.ofChange decBackSpec)) decBackCard

/-- THE TIED CARD OF 'forebaylaw03.DecZeros'. -/
def decZerosCard : Claim7 := { stood := { row := decZerosRow, standIns := [], harness := (true, "cb3397420e479f667f36dcf1758fa2cdba0d3080dd67d5f985f786de3828bc7c"), looks := false }, kinds := [], alts := [], laidByText := true, laidKinds := [.data, .data, .data, .data, .pinned], laidTests := true, laidLooks := .later }
def DecZerosCardSaid : Prop := Claim7.holds Tryd.pinned (.plain (OpenSpec.ofChange decZerosSpec)) decZerosCard

/-- THE TIED CARD OF 'forebaylaw03.DecTexts'. -/
def decTextsCard : Claim7 := { stood := { row := decTextsRow, standIns := [], harness := (true, "cb3397420e479f667f36dcf1758fa2cdba0d3080dd67d5f985f786de3828bc7c"), looks := false }, kinds := [], alts := [], laidByText := true, laidKinds := [.data, .data, .data, .data, .pinned], laidTests := true, laidLooks := .later }
def DecTextsCardSaid : Prop := Claim7.holds Tryd.pinned (.plain (OpenSpec.ofChange decTextsSpec)) decTextsCard

/-- THE TIED CARD OF 'forebaylaw03.DecOrders'. -/
def decOrdersCard : Claim7 := { stood := { row := decOrdersRow, standIns := [], harness := (true, "cb3397420e479f667f36dcf1758fa2cdba0d3080dd67d5f985f786de3828bc7c"), looks := false }, kinds := [], alts := [], laidByText := true, laidKinds := [.data, .data, .data, .data, .pinned], laidTests := true, laidLooks := .later }
def DecOrdersCardSaid : Prop := Claim7.holds Tryd.pinned (.plain (OpenSpec.ofChange decOrdersSpec)) decOrdersCard

/-- THE TIED CARD OF 'forebaylaw03.DecWhole'. -/
def decWholeCard : Claim7 := { stood := { row := decWholeRow, standIns := [], harness := (true, "cb3397420e479f667f36dcf1758fa2cdba0d3080dd67d5f985f786de3828bc7c"), looks := false }, kinds := [], alts := [], laidByText := true, laidKinds := [.data, .data, .data, .data, .pinned], laidTests := true, laidLooks := .later }
def DecWholeCardSaid : Prop := Claim7.holds Tryd.pinned (.plain (OpenSpec.ofChange decWholeSpec)) decWholeCard

/-- THE SECOND FORM's CARD OF 'forebaylaw03.DecNormals'. -/
def decNormalsUptoCard : Claim7 := { stood := { row := decNormalsUptoRow, standIns := [], harness := (true, "cb3397420e479f667f36dcf1758fa2cdba0d3080dd67d5f985f786de3828bc7c"), looks := false }, kinds := [], alts := [], laidByText := true, laidKinds := [.data, .data, .data, .data, .pinned], laidTests := true, laidLooks := .later }
def DecNormalsUptoCardSaid : Prop := Claim7.holds Tryd.pinned (.plain (OpenSpec.upto decNormalsSpec)) decNormalsUptoCard

/-- THE SECOND FORM's CARD OF 'forebaylaw03.DecParses'. -/
def decParsesUptoCard : Claim7 := { stood := { row := decParsesUptoRow, standIns := [], harness := (true, "cb3397420e479f667f36dcf1758fa2cdba0d3080dd67d5f985f786de3828bc7c"), looks := false }, kinds := [], alts := [], laidByText := true, laidKinds := [.data, .data, .data, .data, .pinned], laidTests := true, laidLooks := .later }
def DecParsesUptoCardSaid : Prop := Claim7.holds Tryd.pinned (.plain (OpenSpec.upto decParsesSpec)) decParsesUptoCard

/-- THE SECOND FORM's CARD OF 'forebaylaw03.DecBack'. -/
def decBackUptoCard : Claim7 := { stood := { row := decBackUptoRow, standIns := [], harness := (true, "cb3397420e479f667f36dcf1758fa2cdba0d3080dd67d5f985f786de3828bc7c"), looks := false }, kinds := [], alts := [], laidByText := true, laidKinds := [.data, .data, .data, .data, .pinned], laidTests := true, laidLooks := .later }
def DecBackUptoCardSaid : Prop := Claim7.holds Tryd.pinned (.plain (OpenSpec.upto decBackSpec)) decBackUptoCard

/-- THE SECOND FORM's CARD OF 'forebaylaw03.DecZeros'. -/
def decZerosUptoCard : Claim7 := { stood := { row := decZerosUptoRow, standIns := [], harness := (true, "cb3397420e479f667f36dcf1758fa2cdba0d3080dd67d5f985f786de3828bc7c"), looks := false }, kinds := [], alts := [], laidByText := true, laidKinds := [.data, .data, .data, .data, .pinned], laidTests := true, laidLooks := .later }
def DecZerosUptoCardSaid : Prop := Claim7.holds Tryd.pinned (.plain (OpenSpec.upto decZerosSpec)) decZerosUptoCard

/-- THE SECOND FORM's CARD OF 'forebaylaw03.DecTexts'. -/
def decTextsUptoCard : Claim7 := { stood := { row := decTextsUptoRow, standIns := [], harness := (true, "cb3397420e479f667f36dcf1758fa2cdba0d3080dd67d5f985f786de3828bc7c"), looks := false }, kinds := [], alts := [], laidByText := true, laidKinds := [.data, .data, .data, .data, .pinned], laidTests := true, laidLooks := .later }
def DecTextsUptoCardSaid : Prop := Claim7.holds Tryd.pinned (.plain (OpenSpec.upto decTextsSpec)) decTextsUptoCard

/-- THE SECOND FORM's CARD OF 'forebaylaw03.DecOrders'. -/
def decOrdersUptoCard : Claim7 := { stood := { row := decOrdersUptoRow, standIns := [], harness := (true, "cb3397420e479f667f36dcf1758fa2cdba0d3080dd67d5f985f786de3828bc7c"), looks := false }, kinds := [], alts := [], laidByText := true, laidKinds := [.data, .data, .data, .data, .pinned], laidTests := true, laidLooks := .later }
def DecOrdersUptoCardSaid : Prop := Claim7.holds Tryd.pinned (.plain (OpenSpec.upto decOrdersSpec)) decOrdersUptoCard

/-- THE SECOND FORM's CARD OF 'forebaylaw03.DecWhole'. -/
def decWholeUptoCard : Claim7 := { stood := { row := decWholeUptoRow, standIns := [], harness := (true, "cb3397420e479f667f36dcf1758fa2cdba0d3080dd67d5f985f786de3828bc7c"), looks := false }, kinds := [], alts := [], laidByText := true, laidKinds := [.data, .data, .data, .data, .pinned], laidTests := true, laidLooks := .later }
def DecWholeUptoCardSaid : Prop := Claim7.holds Tryd.pinned (.plain (OpenSpec.upto decWholeSpec)) decWholeUptoCard
end Rows
end Go.Proofs.YtckofkijjcbcoaaDoor
