/-
  No cell of these rows narrows 'for every input' (looked for: loops, veiled, ifaces, maps, wideKeys, modest, calm, conditions, laid).
  DERIVED. THE GIVEN ROWS OF THIS SEAT. 2 by the template 'for every input the law returns true; each argument reads behind the call as it read before'; 0 by the template 'total and deterministic' (their statements: YthfaagjjkdoedaaTotals.lean).
  GIVEN WITH THE SEED: the statements are not yours to turn. If you find one false, say at which input.
  Laid BY PROGRAM, IN A SANDBOX (cutbox-rows.mjs): the forced cells as the released guide's own fill.sh prints them over the translation 996a419d838b5ccc… (all of the seat's roots in one cut). By AI agents, Wed Nov 11 2026. No macro, syntax, notation, axiom, sorry.
-/
import Derived.Test.YthfaagjjkdoedaaChecked
import GoSem.Claim
import GoSem.ClaimJoined
import GoSem.ClaimMapViews
import Derived.JoinedTies
import Derived.KernelRfl
namespace Go.Proofs.Ythfaagjjkdoedaa
/- THE CELL 'sum', in the pinned program and in every row, IS THE sha256 OF THE DUMP (.gsa) THAT YthfaagjjkdoedaaProg.lean LOADS. Nothing in Lean hashes anything: it is a label: what it is worth is what the hold of that sum in a sandbox is worth. -/
noncomputable def Try.pinned : Pinned := { name := "ythfaagjjkdoedaa", sum := "996a419d838b5ccce3fcaa4e532ad8ba876a0546f91eea88ad45690efab16503", checked := Try.checked }
namespace Rows
def none {H : Type} : Left H := { results := [], args := [] }

/-- 'forebaylaw20.SplitLines': WHATEVER THE INPUT: true; the input reads as it did. -/
def splitLinesSpec : ChangeSpec := { name := "splitLines", fn := fun _ => fun
  | [d1, d2] => { results := [.lit (.bool true)], args := [d1, d2] }
  | _ => none }
def splitLinesRow : OpenClaim := { program := "ythfaagjjkdoedaa", sum := "996a419d838b5ccce3fcaa4e532ad8ba876a0546f91eea88ad45690efab16503", func := "forebay/forebaylaw20.SplitLines", spec := "splitLines", inPlace := ["internal/bytealg.IndexByteString", "internal/bytealg.IndexString", "internal/abi.NoEscape", "internal/bytealg.MakeNoZero"], unfollowed := true, recurses := true, named := ["internal/bytealg.MaxLen"], apart := false }
def SplitLinesSaid : Prop := splitLinesRow.holds Try.pinned (OpenSpec.ofChange splitLinesSpec)

/-- ITS FALSE NEIGHBOUR: 'it returns false'. Refute it at one input. -/
def splitLinesWrong : ChangeSpec := { name := "splitLines", fn := fun _ => fun
  | [d1, d2] => { results := [.lit (.bool false)], args := [d1, d2] }
  | _ => none }
def SplitLinesWrongFalsely : Prop := splitLinesRow.holds Try.pinned (OpenSpec.ofChange splitLinesWrong)

/-- 'forebaylaw20.SplitWhole': WHATEVER THE INPUT: true; the input reads as it did. -/
def splitWholeSpec : ChangeSpec := { name := "splitWhole", fn := fun _ => fun
  | [d1, d2] => { results := [.lit (.bool true)], args := [d1, d2] }
  | _ => none }
def splitWholeRow : OpenClaim := { program := "ythfaagjjkdoedaa", sum := "996a419d838b5ccce3fcaa4e532ad8ba876a0546f91eea88ad45690efab16503", func := "forebay/forebaylaw20.SplitWhole", spec := "splitWhole", inPlace := ["internal/bytealg.IndexByteString", "internal/bytealg.IndexString", "internal/abi.NoEscape", "internal/bytealg.MakeNoZero"], unfollowed := true, recurses := true, named := ["internal/bytealg.MaxLen"], apart := false }
def SplitWholeSaid : Prop := splitWholeRow.holds Try.pinned (OpenSpec.ofChange splitWholeSpec)

/-- ITS FALSE NEIGHBOUR: 'it returns false'. Refute it at one input. -/
def splitWholeWrong : ChangeSpec := { name := "splitWhole", fn := fun _ => fun
  | [d1, d2] => { results := [.lit (.bool false)], args := [d1, d2] }
  | _ => none }
def SplitWholeWrongFalsely : Prop := splitWholeRow.holds Try.pinned (OpenSpec.ofChange splitWholeWrong)

/- THE SECOND FORM. 'bulk': how many values and letters a reading holds, each counted each time it is reached (what is shared counts as often as it is met; a slice's spare places count too). A statement '..UptoSaid' is the law's where the arguments, and the package variables that the reading takes, are together of bulk at most 1048576: NARROWER than '..Said'. Prove '..Said' where nothing that the law and all that it calls make is longer than what came in: it says more and counts as full. Else prove '..UptoSaid'. A law counts once. -/
mutual
def uptoBulk {H : Type} : DataW H → Nat
  | .lit (.string bytes) => bytes.length + 1
  | .lit _ => 1
  | .nil => 1
  | .ptr d => uptoBulk d + 1
  | .slice elems spare => uptoBulkAll elems + uptoBulkAll spare + 1
  | .agg parts => uptoBulkAll parts + 1
  | .iface _ d => uptoBulk d + 1
  | .map entries => uptoBulkEntries entries + 1
  | .held _ => 1
def uptoBulkAll {H : Type} : List (DataW H) → Nat
  | [] => 0
  | d :: r => uptoBulk d + uptoBulkAll r
def uptoBulkEntries {H : Type} : List (Lit × DataW H) → Nat
  | [] => 0
  | x :: r => uptoBulkEntry x + uptoBulkEntries r
def uptoBulkEntry {H : Type} : Lit × DataW H → Nat
  | (.string bytes, d) => bytes.length + uptoBulk d + 1
  | (_, d) => uptoBulk d + 1
 end
def uptoSmall : (H : Type) → List (DataW H) → Bool := fun _ ds => decide (uptoBulkAll ds ≤ 1048576)
def OpenSpec.upto (s : _root_.Go.ChangeSpec) : _root_.Go.OpenSpec := { _root_.Go.OpenSpec.ofChange s with cond := some uptoSmall }

/-- 'forebaylaw20.SplitLines', WHERE WHAT IT READS IS OF BULK AT MOST 1048576: true; the input reads as it did. -/
def splitLinesUptoRow : OpenClaim := { program := "ythfaagjjkdoedaa", sum := "996a419d838b5ccce3fcaa4e532ad8ba876a0546f91eea88ad45690efab16503", func := "forebay/forebaylaw20.SplitLines", spec := "splitLines", inPlace := ["internal/bytealg.IndexByteString", "internal/bytealg.IndexString", "internal/abi.NoEscape", "internal/bytealg.MakeNoZero"], unfollowed := true, recurses := true, named := ["internal/bytealg.MaxLen"], apart := false, narrowed := true }
def SplitLinesUptoSaid : Prop := splitLinesUptoRow.holds Try.pinned (OpenSpec.upto splitLinesSpec)

/-- 'forebaylaw20.SplitWhole', WHERE WHAT IT READS IS OF BULK AT MOST 1048576: true; the input reads as it did. -/
def splitWholeUptoRow : OpenClaim := { program := "ythfaagjjkdoedaa", sum := "996a419d838b5ccce3fcaa4e532ad8ba876a0546f91eea88ad45690efab16503", func := "forebay/forebaylaw20.SplitWhole", spec := "splitWhole", inPlace := ["internal/bytealg.IndexByteString", "internal/bytealg.IndexString", "internal/abi.NoEscape", "internal/bytealg.MakeNoZero"], unfollowed := true, recurses := true, named := ["internal/bytealg.MaxLen"], apart := false, narrowed := true }
def SplitWholeUptoSaid : Prop := splitWholeUptoRow.holds Try.pinned (OpenSpec.upto splitWholeSpec)

end Rows
end Go.Proofs.Ythfaagjjkdoedaa
