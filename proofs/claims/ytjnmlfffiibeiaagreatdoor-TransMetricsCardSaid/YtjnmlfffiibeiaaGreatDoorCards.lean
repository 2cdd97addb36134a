/-
  DERIVED. GIVEN WITH THE SEED: THE CARDS: each row of YtjnmlfffiibeiaaGreatDoorRows.lean that lists a variable, with what it lists TIED to the program's text (the seventh form; the later family's looks); each row that meets fmt, with fmt's text TOLD by the authors' own Lean function (tested against real Go, not proved from fmt's source: count such statements apart). THE CARD IS WHAT COUNTS. Prove the row's statement (the work); the ties are given (YtjnmlfffiibeiaaGreatDoorTie.lean); close each card by the builder's one call (the guide's Derived/Test/ToyasCard.lean, 'card_holds'). Laid BY PROGRAM, IN A SANDBOX (cutbox-door.mjs). By AI agents, Wed Nov 11 2026. No macro, syntax, notation, axiom, sorry.
-/
import Derived.Test.YtjnmlfffiibeiaaGreatDoorRows
import GoSem.ClaimSeven
namespace Go.Proofs.YtjnmlfffiibeiaaGreatDoor
namespace Rows

/-- THE TIED CARD OF 'forebaylaw23.TransMetrics'. -/
def transMetricsCard : Claim7 := { stood := { row := transMetricsRow, standIns := [], harness := (true, "25e09a780ff0f5c68a07fb22a0caf4b2d53fad6c48650246d3f5b08101cc77c9"), looks := true }, kinds := [], alts := [], laidByText := true, laidKinds := [.data, .data, .data, .data, .sentinel, .sentinel, .pinned], laidTests := true, laidLooks := .later }
def TransMetricsCardSaid : Prop := Claim7.holds Tryz.pinned (.plain (OpenSpec.ofChange transMetricsSpec)) transMetricsCard

/-- THE TIED CARD OF 'forebaylaw23.TransCodes'. -/
def transCodesCard : Claim7 := { stood := { row := transCodesRow, standIns := [], harness := (true, "25e09a780ff0f5c68a07fb22a0caf4b2d53fad6c48650246d3f5b08101cc77c9"), looks := true }, kinds := [], alts := [], laidByText := true, laidKinds := [.data, .data, .data, .data, .sentinel, .sentinel, .pinned], laidTests := true, laidLooks := .later }
def TransCodesCardSaid : Prop := Claim7.holds Tryz.pinned (.plain (OpenSpec.ofChange transCodesSpec)) transCodesCard

/-- THE TIED CARD OF 'forebaylaw23.TransBytes'. -/
def transBytesCard : Claim7 := { stood := { row := transBytesRow, standIns := [], harness := (true, "25e09a780ff0f5c68a07fb22a0caf4b2d53fad6c48650246d3f5b08101cc77c9"), looks := true }, kinds := [], alts := [], laidByText := true, laidKinds := [.data, .data, .data, .data, .sentinel, .sentinel, .pinned], laidTests := true, laidLooks := .later }
def TransBytesCardSaid : Prop := Claim7.holds Tryz.pinned (.plain (OpenSpec.ofChange transBytesSpec)) transBytesCard

/-- THE TIED CARD OF 'forebaylaw23.TransTurns'. -/
def transTurnsCard : Claim7 := { stood := { row := transTurnsRow, standIns := [], harness := (true, "25e09a780ff0f5c68a07fb22a0caf4b2d53fad6c48650246d3f5b08101cc77c9"), looks := true }, kinds := [], alts := [], laidByText := true, laidKinds := [.data, .data, .data, .data, .sentinel, .sentinel, .pinned], laidTests := true, laidLooks := .later }
def TransTurnsCardSaid : Prop := Claim7.holds Tryz.pinned (.plain (OpenSpec.ofChange transTurnsSpec)) transTurnsCard

/-- THE TIED CARD OF 'forebaylaw23.TransCanon'. -/
def transCanonCard : Claim7 := { stood := { row := transCanonRow, standIns := [], harness := (true, "25e09a780ff0f5c68a07fb22a0caf4b2d53fad6c48650246d3f5b08101cc77c9"), looks := true }, kinds := [], alts := [], laidByText := true, laidKinds := [.data, .data, .data, .data, .sentinel, .sentinel, .pinned], laidTests := true, laidLooks := .later }
def TransCanonCardSaid : Prop := Claim7.holds Tryz.pinned (.plain (OpenSpec.ofChange transCanonSpec)) transCanonCard

/-- THE TIED CARD OF 'forebaylaw23.TransBack'. -/
def transBackCard : Claim7 := { stood := { row := transBackRow, standIns := [], harness := (true, "25e09a780ff0f5c68a07fb22a0caf4b2d53fad6c48650246d3f5b08101cc77c9"), looks := true }, kinds := [], alts := [], laidByText := true, laidKinds := [.data, .data, .data, .data, .sentinel, .sentinel, .pinned], laidTests := true, laidLooks := .later }
def TransBackCardSaid : Prop := Claim7.holds Tryz.pinned (.plain (OpenSpec.ofChange transBackSpec)) transBackCard

/-- THE SECOND FORM's CARD OF 'forebaylaw23.TransMetrics'. -/
def transMetricsUptoCard : Claim7 := { stood := { row := transMetricsUptoRow, standIns := [], harness := (true, "25e09a780ff0f5c68a07fb22a0caf4b2d53fad6c48650246d3f5b08101cc77c9"), looks := true }, kinds := [], alts := [], laidByText := true, laidKinds := [.data, .data, .data, .data, .sentinel, .sentinel, .pinned], laidTests := true, laidLooks := .later }
def TransMetricsUptoCardSaid : Prop := Claim7.holds Tryz.pinned (.plain (OpenSpec.upto transMetricsSpec)) transMetricsUptoCard

/-- THE SECOND FORM's CARD OF 'forebaylaw23.TransCodes'. -/
def transCodesUptoCard : Claim7 := { stood := { row := transCodesUptoRow, standIns := [], harness := (true, "25e09a780ff0f5c68a07fb22a0caf4b2d53fad6c48650246d3f5b08101cc77c9"), looks := true }, kinds := [], alts := [], laidByText := true, laidKinds := [.data, .data, .data, .data, .sentinel, .sentinel, .pinned], laidTests := true, laidLooks := .later }
def TransCodesUptoCardSaid : Prop := Claim7.holds Tryz.pinned (.plain (OpenSpec.upto transCodesSpec)) transCodesUptoCard

/-- THE SECOND FORM's CARD OF 'forebaylaw23.TransBytes'. -/
def transBytesUptoCard : Claim7 := { stood := { row := transBytesUptoRow, standIns := [], harness := (true, "25e09a780ff0f5c68a07fb22a0caf4b2d53fad6c48650246d3f5b08101cc77c9"), looks := true }, kinds := [], alts := [], laidByText := true, laidKinds := [.data, .data, .data, .data, .sentinel, .sentinel, .pinned], laidTests := true, laidLooks := .later }
def TransBytesUptoCardSaid : Prop := Claim7.holds Tryz.pinned (.plain (OpenSpec.upto transBytesSpec)) transBytesUptoCard

/-- THE SECOND FORM's CARD OF 'forebaylaw23.TransTurns'. -/
def transTurnsUptoCard : Claim7 := { stood := { row := transTurnsUptoRow, standIns := [], harness := (true, "25e09a780ff0f5c68a07fb22a0caf4b2d53fad6c48650246d3f5b08101cc77c9"), looks := true }, kinds := [], alts := [], laidByText := true, laidKinds := [.data, .data, .data, .data, .sentinel, .sentinel, .pinned], laidTests := true, laidLooks := .later }
def TransTurnsUptoCardSaid : Prop := Claim7.holds Tryz.pinned (.plain (OpenSpec.upto transTurnsSpec)) transTurnsUptoCard

/-- THE SECOND FORM's CARD OF 'forebaylaw23.TransCanon'. -/
def transCanonUptoCard : Claim7 := { stood := { row := transCanonUptoRow, standIns := [], harness := (true, "25e09a780ff0f5c68a07fb22a0caf4b2d53fad6c48650246d3f5b08101cc77c9"), looks := true }, kinds := [], alts := [], laidByText := true, laidKinds := [.data, .data, .data, .data, .sentinel, .sentinel, .pinned], laidTests := true, laidLooks := .later }
def TransCanonUptoCardSaid : Prop := Claim7.holds Tryz.pinned (.plain (OpenSpec.upto transCanonSpec)) transCanonUptoCard

/-- THE SECOND FORM's CARD OF 'forebaylaw23.TransBack'. -/
def transBackUptoCard : Claim7 := { stood := { row := transBackUptoRow, standIns := [], harness := (true, "25e09a780ff0f5c68a07fb22a0caf4b2d53fad6c48650246d3f5b08101cc77c9"), looks := true }, kinds := [], alts := [], laidByText := true, laidKinds := [.data, .data, .data, .data, .sentinel, .sentinel, .pinned], laidTests := true, laidLooks := .later }
def TransBackUptoCardSaid : Prop := Claim7.holds Tryz.pinned (.plain (OpenSpec.upto transBackSpec)) transBackUptoCard
end Rows
end Go.Proofs.YtjnmlfffiibeiaaGreatDoor
