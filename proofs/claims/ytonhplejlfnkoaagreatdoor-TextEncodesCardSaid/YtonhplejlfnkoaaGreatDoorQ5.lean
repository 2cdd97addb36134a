/- Part 5 of a proof by the abstract machine. -/
import Derived.Test.YtonhplejlfnkoaaGreatDoorQ4
import Derived.KernelRfl
import Derived.Test.YtonhplejlfnkoaaGreatDoorRows
import Derived.Test.YtonhplejlfnkoaaGreatDoorProg
import Derived.Shelf.Spec.BitsCarry
import Derived.Lib.ItoaNum
import Derived.Lib.ItoaLen
import Derived.Lib.AtoiAll
import Derived.Lib.TrimByte
set_option linter.unusedVariables false
set_option maxRecDepth 100000
namespace Go.AM
open Go.Proofs Go.RowKit
open Go.Proofs.YtonhplejlfnkoaaGreatDoor
def SI : World → Prop := LaidI Tryz.prog Rows.textDecodesRow.laid
def SW : World → Prop := WOf SI
theorem swTab {w : World} (h : SW w) : Lib.TabIs Tryz.prog w (Rows.textDecodesRow.laid.getD 2 ("", .nil)).1 .u64 Lib.pow10Tab := by
  obtain ⟨w0, h1, h2, h3⟩ := h
  exact tab_on (laid_tab h1 (by kernel_rfl) 2 (by kernel_rfl) (g := 1) (by kernel_rfl) (by kernel_rfl) Tryz.underlying266 Tryz.underlying77 (by kernel_rfl) (by kernel_rfl)) h2 h3
theorem swErrS {w : World} (h : SW w) : ∃ ev, w.cell? ⟨6, 0, none⟩ = some ev ∧ (ev = .nilIface ∨ ∃ te pe, ev = .iface te pe) := by
  obtain ⟨w0, h1, h2, h3⟩ := h
  obtain ⟨ev, a, b⟩ := laid_iface h1 (by kernel_rfl) 5 rfl (g := 6) (by kernel_rfl) (by kernel_rfl) Tryz.underlying150
  exact ⟨ev, cell_on a h3, b⟩
theorem swErrR {w : World} (h : SW w) : ∃ ev, w.cell? ⟨7, 0, none⟩ = some ev ∧ (ev = .nilIface ∨ ∃ te pe, ev = .iface te pe) := by
  obtain ⟨w0, h1, h2, h3⟩ := h
  obtain ⟨ev, a, b⟩ := laid_iface h1 (by kernel_rfl) 4 rfl (g := 7) (by kernel_rfl) (by kernel_rfl) Tryz.underlying150
  exact ⟨ev, cell_on a h3, b⟩
theorem mixed : Tryz.prog.follows .mixedOrders = true := by kernel_rfl
abbrev V0 : SV := .int .i64
abbrev V1 : SV := .int .u8
abbrev V2 : SV := .agg [V0, V0]
abbrev Y0 : Ty := .int .u64
abbrev Y1 : Ty := .int .i64
abbrev Y2 : Ty := .agg [.bool, Y0, Y1]
abbrev V3 : SV := .sl Y2 .unk
abbrev Y3 : Ty := .agg [.str, .str]
abbrev V4 : SV := .sl Y3 .unk
abbrev V5 : SV := .agg [.str, V0, V3, V0, V4, V0]
abbrev V6 : SV := .int .u64
abbrev V7 : SV := .agg [.bool, V6, V0]
abbrev V8 : SV := .agg [V1, V1]
abbrev V9 : SV := .sl .str .unk
abbrev V10 : SV := .agg [.str, .str, .str, .str, .str, .str]
abbrev V11 : SV := .agg [.str, .str]
abbrev V12 : SV := .agg [.str, (.const (.fn 184 [(.ref 2 0)] [])), .str, (.const (.fn 185 [(.ref 2 0)] [])), .str, (.const (.fn 186 [(.ref 2 0)] []))]
abbrev Y4 : Ty := .sl Y2
abbrev Y5 : Ty := .sl Y3
abbrev Y6 : Ty := .agg [.str, Y1, Y4, Y1, Y5, Y1]
abbrev V13 : SV := .sl .u8 .unk
abbrev V14 : SV := .sl Y6 .unk
abbrev Y7 : Ty := .agg [Y1, .str]
abbrev V16 : SV := .agg [(.fn 97 [V5] []), V0, (.fn 98 [V5] []), V0, (.fn 99 [V5] []), V0, (.fn 100 [V5] []), V0, (.fn 101 [V5] []), V0, (.fn 102 [V5] []), V0]
abbrev Y8 : Ty := .sl Y6
abbrev Y9 : Ty := .agg [Y1, Y1]
abbrev Y10 : Ty := .agg [(.sl .u8), (.sl .u8)]
abbrev Y11 : Ty := .agg [Y6]
abbrev Y12 : Ty := .sl Y7
abbrev Y13 : Ty := .agg [Y6, Y1, Y1]
abbrev Y14 : Ty := .agg [Y1, .str, .bool]
abbrev Y15 : Ty := .agg [.u8, .u8]
abbrev Y16 : Ty := .agg [.str, .str, .str, .str, .str, .str]
def tab : Tree TI := .node 111 (.node 55 (.node 33 (.node 23 (.node 5 (.node 4 (.one 3 ⟨.int .i64, 1, 8, false, [(.int .i64 (0 : Int))], some Y1, false⟩) (.one 4 ⟨.bool, 1, 1, false, [(.bool false)], some .bool, false⟩)) (.node 9 (.one 5 ⟨.int .u8, 1, 1, false, [(.int .u8 (0 : Int))], some .u8, false⟩) (.node 22 (.one 9 ⟨.str, 1, 16, false, [(.str [])], some .str, false⟩) (.one 22 ⟨.slice 5, 1, 24, false, [.sl .u8 [] .full], some (.sl .u8), false⟩)))) (.node 25 (.node 24 (.one 23 ⟨.func, 1, 8, false, [.nilfn], none, false⟩) (.one 24 ⟨.slice 36, 1, 24, false, [.sl Y6 [] .full], some Y8, false⟩)) (.node 27 (.one 25 ⟨.int .i64, 1, 8, false, [(.int .i64 (0 : Int))], some Y1, false⟩) (.node 28 (.one 27 ⟨.struct [(0, 25), (1, 3)], 2, 16, true, [(.int .i64 (0 : Int)), (.int .i64 (0 : Int))], some Y9, true⟩) (.one 28 ⟨.other, 1, 0, false, [.any], none, false⟩))))) (.node 42 (.node 36 (.node 34 (.one 33 ⟨.slice 79, 1, 24, false, [.sl Y2 [] .full], some Y4, false⟩) (.one 34 ⟨.slice 76, 1, 24, false, [.sl Y3 [] .full], some Y5, false⟩)) (.node 38 (.one 36 ⟨.struct [(0, 9), (1, 3), (2, 33), (3, 3), (4, 34), (5, 3)], 6, 88, true, [(.str []), (.int .i64 (0 : Int)), .sl Y2 [] .full, (.int .i64 (0 : Int)), .sl Y3 [] .full, (.int .i64 (0 : Int))], some Y6, false⟩) (.node 40 (.one 38 ⟨.other, 1, 0, false, [.any], none, false⟩) (.one 40 ⟨.other, 1, 0, false, [.any], none, false⟩)))) (.node 49 (.node 44 (.one 42 ⟨.func, 1, 8, false, [.nilfn], none, false⟩) (.node 45 (.one 44 ⟨.other, 1, 0, false, [.any], none, false⟩) (.one 45 ⟨.func, 1, 8, false, [.nilfn], none, false⟩))) (.node 52 (.one 49 ⟨.arr 2 22, 2, 48, true, [.sl .u8 [] .full, .sl .u8 [] .full], some Y10, false⟩) (.node 53 (.one 52 ⟨.slice 9, 1, 24, false, [.sl .str [] .full], some (.sl .str), false⟩) (.one 53 ⟨.other, 1, 0, false, [.any], none, false⟩)))))) (.node 77 (.node 67 (.node 61 (.node 59 (.one 55 ⟨.other, 1, 0, false, [.any], none, false⟩) (.one 59 ⟨.other, 1, 0, false, [.any], none, false⟩)) (.node 64 (.one 61 ⟨.other, 1, 0, false, [.any], none, false⟩) (.node 65 (.one 64 ⟨.func, 1, 8, false, [.nilfn], none, false⟩) (.one 65 ⟨.func, 1, 8, false, [.nilfn], none, false⟩)))) (.node 71 (.node 68 (.one 67 ⟨.struct [(0, 64), (1, 65)], 2, 16, true, [.nilfn, .nilfn], none, false⟩) (.one 68 ⟨.other, 1, 0, false, [.any], none, false⟩)) (.node 73 (.one 71 ⟨.func, 1, 8, false, [.nilfn], none, false⟩) (.node 76 (.one 73 ⟨.other, 1, 0, false, [.any], none, false⟩) (.one 76 ⟨.struct [(0, 9), (1, 9)], 2, 32, true, [(.str []), (.str [])], some Y3, true⟩))))) (.node 92 (.node 80 (.node 79 (.one 77 ⟨.int .u64, 1, 8, false, [(.int .u64 (0 : Int))], some Y0, false⟩) (.one 79 ⟨.struct [(0, 4), (1, 77), (2, 3)], 3, 24, true, [(.bool false), (.int .u64 (0 : Int)), (.int .i64 (0 : Int))], some Y2, true⟩)) (.node 90 (.one 80 ⟨.other, 1, 0, false, [.any], none, false⟩) (.node 91 (.one 90 ⟨.func, 1, 8, false, [.nilfn], none, false⟩) (.one 91 ⟨.other, 1, 0, false, [.any], none, false⟩)))) (.node 102 (.node 96 (.one 92 ⟨.map 3 90, 1, 8, false, [.any], none, false⟩) (.node 97 (.one 96 ⟨.struct [(0, 36)], 6, 88, true, [(.str []), (.int .i64 (0 : Int)), .sl Y2 [] .full, (.int .i64 (0 : Int)), .sl Y3 [] .full, (.int .i64 (0 : Int))], some Y11, false⟩) (.one 97 ⟨.func, 1, 8, false, [.nilfn], none, false⟩))) (.node 105 (.one 102 ⟨.other, 1, 0, false, [.any], none, false⟩) (.node 107 (.one 105 ⟨.other, 1, 0, false, [.any], none, false⟩) (.one 107 ⟨.slice 111, 1, 24, false, [.sl Y7 [] .full], some Y12, false⟩))))))) (.node 161 (.node 139 (.node 131 (.node 114 (.node 112 (.one 111 ⟨.struct [(0, 3), (1, 9)], 2, 24, true, [(.int .i64 (0 : Int)), (.str [])], some Y7, true⟩) (.one 112 ⟨.ptr, 1, 8, false, [.nilp], none, false⟩)) (.node 127 (.one 114 ⟨.other, 1, 0, false, [.any], none, false⟩) (.node 130 (.one 127 ⟨.func, 1, 8, false, [.nilfn], none, false⟩) (.one 130 ⟨.struct [(0, 36)], 6, 88, true, [(.str []), (.int .i64 (0 : Int)), .sl Y2 [] .full, (.int .i64 (0 : Int)), .sl Y3 [] .full, (.int .i64 (0 : Int))], some Y11, false⟩)))) (.node 133 (.node 132 (.one 131 ⟨.struct [(0, 23), (1, 25)], 2, 16, true, [.nilfn, (.int .i64 (0 : Int))], none, false⟩) (.one 132 ⟨.arr 6 131, 12, 96, true, [.nilfn, (.int .i64 (0 : Int)), .nilfn, (.int .i64 (0 : Int)), .nilfn, (.int .i64 (0 : Int)), .nilfn, (.int .i64 (0 : Int)), .nilfn, (.int .i64 (0 : Int)), .nilfn, (.int .i64 (0 : Int))], none, false⟩)) (.node 134 (.one 133 ⟨.slice 4, 1, 24, false, [.sl .bool [] .full], some (.sl .bool), false⟩) (.node 136 (.one 134 ⟨.other, 1, 0, false, [.any], none, false⟩) (.one 136 ⟨.func, 1, 8, false, [.nilfn], none, false⟩))))) (.node 150 (.node 142 (.node 141 (.one 139 ⟨.other, 1, 0, false, [.any], none, false⟩) (.one 141 ⟨.func, 1, 8, false, [.nilfn], none, false⟩)) (.node 146 (.one 142 ⟨.other, 1, 0, false, [.any], none, false⟩) (.node 148 (.one 146 ⟨.ptr, 1, 8, false, [.nilp], none, false⟩) (.one 148 ⟨.struct [(0, 146), (1, 22)], 2, 32, true, [.nilp, .sl .u8 [] .full], none, false⟩)))) (.node 154 (.node 151 (.one 150 ⟨.iface, 1, 16, false, [(.err false)], none, false⟩) (.node 153 (.one 151 ⟨.other, 1, 0, false, [.any], none, false⟩) (.one 153 ⟨.func, 1, 8, false, [.nilfn], none, false⟩))) (.node 157 (.one 154 ⟨.other, 1, 0, false, [.any], none, false⟩) (.node 159 (.one 157 ⟨.ptr, 1, 8, false, [.nilp], none, false⟩) (.one 159 ⟨.struct [(0, 36), (6, 3), (7, 3)], 8, 104, true, [(.str []), (.int .i64 (0 : Int)), .sl Y2 [] .full, (.int .i64 (0 : Int)), .sl Y3 [] .full, (.int .i64 (0 : Int)), (.int .i64 (0 : Int)), (.int .i64 (0 : Int))], some Y13, false⟩)))))) (.node 190 (.node 174 (.node 164 (.node 162 (.one 161 ⟨.func, 1, 8, false, [.nilfn], none, false⟩) (.one 162 ⟨.slice 161, 1, 24, false, [.nils], none, false⟩)) (.node 167 (.one 164 ⟨.func, 1, 8, false, [.nilfn], none, false⟩) (.node 169 (.one 167 ⟨.struct [(0, 3), (1, 9), (2, 4)], 3, 32, true, [(.int .i64 (0 : Int)), (.str []), (.bool false)], some Y14, true⟩) (.one 169 ⟨.other, 1, 0, false, [.any], none, false⟩)))) (.node 183 (.node 177 (.one 174 ⟨.func, 1, 8, false, [.nilfn], none, false⟩) (.node 179 (.one 177 ⟨.other, 1, 0, false, [.any], none, false⟩) (.one 179 ⟨.other, 1, 0, false, [.any], none, false⟩))) (.node 185 (.one 183 ⟨.func, 1, 8, false, [.nilfn], none, false⟩) (.node 187 (.one 185 ⟨.func, 1, 8, false, [.nilfn], none, false⟩) (.one 187 ⟨.func, 1, 8, false, [.nilfn], none, false⟩))))) (.node 208 (.node 200 (.node 198 (.one 190 ⟨.func, 1, 8, false, [.nilfn], none, false⟩) (.one 198 ⟨.arr 2 5, 2, 2, true, [(.int .u8 (0 : Int)), (.int .u8 (0 : Int))], some Y15, false⟩)) (.node 201 (.one 200 ⟨.func, 1, 8, false, [.nilfn], none, false⟩) (.node 207 (.one 201 ⟨.arr 6 9, 6, 96, true, [(.str []), (.str []), (.str []), (.str []), (.str []), (.str [])], some Y16, false⟩) (.one 207 ⟨.func, 1, 8, false, [.nilfn], none, false⟩)))) (.node 211 (.node 209 (.one 208 ⟨.struct [(0, 9), (1, 207)], 2, 24, true, [(.str []), .nilfn], none, false⟩) (.node 210 (.one 209 ⟨.arr 3 208, 6, 72, true, [(.str []), .nilfn, (.str []), .nilfn, (.str []), .nilfn], none, false⟩) (.one 210 ⟨.func, 1, 8, false, [.nilfn], none, false⟩))) (.node 221 (.one 211 ⟨.other, 1, 0, false, [.any], none, false⟩) (.node 222 (.one 221 ⟨.func, 1, 8, false, [.nilfn], none, false⟩) (.one 222 ⟨.other, 1, 0, false, [.any], none, false⟩)))))))
theorem tab_ok : tab.all (tiOK Tryz.prog) = true := by kernel_rfl
abbrev FO (g : Nat) (ps : List SV) (rv : RV) (f : arrL ps (Option rv.den)) : Prop := FnOK Tryz.prog SW g ps rv (appL ps f)
theorem mx {X : Type} {fns : List (Nat × Func)} {C : List (Nat × (List AV → Option Entry))} {loops : List (Nat × Nat × List (LoopI X))} {rfs : List (Nat × Nat × Func × List Nat × Nat)}
    {conf : List (Nat × Nat × List (Nat × Nat))} {unroll : List (Nat × Nat × Nat)} {cuts : List (Nat × Nat × List (CutI X))} {rows : List (Nat × Ty)} {pr : List (Nat × Pr)} {bt : Option (Nat × Nat)} {keep : List Nat} (hf : AllT (fun p => Tryz.prog.funcs[p.1]? = some p.2 ∧ p.2.name ≠ "runtime.NumGoroutine") fns)
    (hC : AllT (fun p => OrcOK Tryz.prog SW p.1 p.2) C) (hc : AllT (fun p => okC (mkCx tab.get fns C loops rfs conf unroll cuts rows pr bt keep) p.1 p.2.ntmps (p.2.body.getD .skip)) fns) (hr : AllT (fun q => Tryz.prog.funcs[q.1]? = some q.2.2.1 ∧ lkp fns q.1 = some q.2.2.1) rfs)
    (hp : AllT (fun p => PrOK Tryz.prog SW p.1 p.2) pr := by exact trivial) : CxOK Tryz.prog SW (mkCx tab.get fns C loops rfs conf unroll cuts rows pr bt keep) := mkCx_ok mixed (tabOK tab_ok) hf hC hc hr hp
abbrev P208 : List SV := [.str, .str]
abbrev R208 : RV := .one V0
theorem ok208 (n : Nat) : FO 208 P208 R208 (O.index1 n) := index1_ok (enters Tryz.func208 (by kernel_rfl) (by decide)) Tryz.stringslite_Index_one n
noncomputable def o208 (n : Nat) := oc 208 P208 R208 (O.index1 n)
noncomputable def cx170 (X : Type) (n : Nat) : Cx X := mkCx tab.get [(170, Tryz.f170)] [o208 n] [] [] [] []
theorem cx170_ok (X : Type) (n : Nat) : CxOK Tryz.prog SW (cx170 X n) := mx (T1 (J Tryz.func170 (by decide))) (T1 (orcOf_ok (ok208 n))) (T1 (okc trivial trivial)) trivial
abbrev P170 : List SV := [.str, .str]
abbrev R170 : RV := .many [.str, .str, .bool]
theorem ok170 (n : Nat) : FO 170 P170 R170 (F.stringslite_Cut n) := fnOK_of WOf.st (cx170_ok _ n) (d := 8) fun _ => by kernel_rfl
noncomputable def o170 (n : Nat) := oc 170 P170 R170 (F.stringslite_Cut n)
noncomputable def cx113 (X : Type) (n : Nat) : Cx X := mkCx tab.get [(113, Tryz.f113)] [o170 n] [] [] [] []
theorem cx113_ok (X : Type) (n : Nat) : CxOK Tryz.prog SW (cx113 X n) := mx (T1 (J Tryz.func113 (by decide))) (T1 (orcOf_ok (ok170 n))) (T1 (okc trivial trivial)) trivial
abbrev P113 : List SV := [.str, .str]
abbrev R113 : RV := .many [.str, .str, .bool]
theorem ok113 (n : Nat) : FO 113 P113 R113 (F.strings_Cut n) := fnOK_of WOf.st (cx113_ok _ n) (d := 8) fun _ => by kernel_rfl
noncomputable def o113 (n : Nat) := oc 113 P113 R113 (F.strings_Cut n)
noncomputable def cx209 (X : Type) (n : Nat) : Cx X := mkCx tab.get [(209, Tryz.f209)] [] [] [] [] []
theorem cx209_ok (X : Type) (n : Nat) : CxOK Tryz.prog SW (cx209 X n) := mx (T1 (J Tryz.func209 (by decide))) trivial (T1 (okc trivial trivial)) trivial
abbrev P209 : List SV := [V0]
abbrev R209 : RV := .one .bool
theorem ok209 (n : Nat) : FO 209 P209 R209 (F.class_may n) := fnOK_of WOf.st (cx209_ok _ n) (d := 8) fun _ => by kernel_rfl
noncomputable def o209 (n : Nat) := oc 209 P209 R209 (F.class_may n)
noncomputable def cx246 (X : Type) (n : Nat) : Cx X := mkCx tab.get [(246, Tryz.f246)] [] [] [] [] []
theorem cx246_ok (X : Type) (n : Nat) : CxOK Tryz.prog SW (cx246 X n) := mx (T1 (J Tryz.func246 (by decide))) trivial (T1 (okc trivial trivial)) trivial
abbrev P246 : List SV := [V1, V1, V1]
abbrev R246 : RV := .one .bool
theorem ok246 (n : Nat) : FO 246 P246 R246 (F.class_between n) := fnOK_of WOf.st (cx246_ok _ n) (d := 8) fun _ => by kernel_rfl
noncomputable def o246 (n : Nat) := oc 246 P246 R246 (F.class_between n)
noncomputable def cx210 (X : Type) (n : Nat) : Cx X := mkCx tab.get [(210, Tryz.f210)] [o246 n] [] [] [] []
theorem cx210_ok (X : Type) (n : Nat) : CxOK Tryz.prog SW (cx210 X n) := mx (T1 (J Tryz.func210 (by decide))) (T1 (orcOf_ok (ok246 n))) (T1 (okc trivial trivial)) trivial
abbrev P210 : List SV := [V0, V1]
abbrev R210 : RV := .one .bool
theorem ok210 (n : Nat) : FO 210 P210 R210 (F.class_Is n) := fnOK_of WOf.st (cx210_ok _ n) (d := 8) fun _ => by kernel_rfl
noncomputable def o210 (n : Nat) := oc 210 P210 R210 (F.class_Is n)
def qh1 : Shape := ⟨[(0, V0), (1, .str), (11, V0), (12, V0)], [], [], [], [], 0, 0, 0⟩
def qe1_0 : Shape := ⟨[], [], [], [], [], 0, 0, 0⟩
def qe1_r : Shape := ⟨[(4, V0), (5, V0)], [], [], [], [], 0, 0, 0⟩
noncomputable def ql1 (X : Type) (n : Nat) : LoopI X := mkLi 8 0 0 0 qh1 [(0, qe1_0)] [qe1_r] n fun m ks => F.class_Bad.L4 n (fun _ => xe qe1_0 ks 0) (xr qe1_r ks) m
noncomputable def cx171 (X : Type) (n : Nat) : Cx X := mkCx tab.get [(171, Tryz.f171)] [o209 n, o210 n] [(171, 4, [ql1 X n])] [] [] []
theorem qo1 (X : Type) (n : Nat) : LO (cx171 X n) 171 Tryz.f171 0 (ql1 X n) := lok
theorem cx171_ok (X : Type) (n : Nat) : CxOK Tryz.prog SW (cx171 X n) := mx (T1 (J Tryz.func171 (by decide))) (J (orcOf_ok (ok209 n)) (T1 (orcOf_ok (ok210 n)))) (T1 (okc (T1 (T1 (qo1 X n))) trivial)) trivial
abbrev P171 : List SV := [V0, .str]
abbrev R171 : RV := .many [V0, V0]
theorem ok171 (n : Nat) : FO 171 P171 R171 (F.class_Bad n) := fnOK_of WOf.st (cx171_ok _ n) (d := 8) fun _ => by kernel_rfl
noncomputable def o171 (n : Nat) := oc 171 P171 R171 (F.class_Bad n)
noncomputable def cx114 (X : Type) (n : Nat) : Cx X := mkCx tab.get [(114, Tryz.f114)] [o171 n] [] [] [] []
theorem cx114_ok (X : Type) (n : Nat) : CxOK Tryz.prog SW (cx114 X n) := mx (T1 (J Tryz.func114 (by decide))) (T1 (orcOf_ok (ok171 n))) (T1 (okc trivial trivial)) trivial
abbrev P114 : List SV := [V0, .str, V0, V0]
abbrev R114 : RV := .one V2
theorem ok114 (n : Nat) : FO 114 P114 R114 (F.class_Text n) := fnOK_of WOf.st (cx114_ok _ n) (d := 8) fun _ => by kernel_rfl
noncomputable def o114 (n : Nat) := oc 114 P114 R114 (F.class_Text n)
noncomputable def cx115 (X : Type) (n : Nat) : Cx X := mkCx tab.get [(115, Tryz.f115)] [] [] [] [] []
theorem cx115_ok (X : Type) (n : Nat) : CxOK Tryz.prog SW (cx115 X n) := mx (T1 (J Tryz.func115 (by decide))) trivial (T1 (okc trivial trivial)) trivial
abbrev P115 : List SV := [V0, V0]
abbrev R115 : RV := .many [V5, V2]
theorem ok115 (n : Nat) : FO 115 P115 R115 (F.statsd_fault n) := fnOK_of WOf.st (cx115_ok _ n) (d := 8) fun _ => by kernel_rfl
noncomputable def o115 (n : Nat) := oc 115 P115 R115 (F.statsd_fault n)
abbrev P190 : List SV := [V6, V6]
abbrev R190 : RV := .many [V6, V6]
theorem ok190 (n : Nat) : FO 190 P190 R190 (O.mul64 n) := mul64_ok (enters Tryz.func190 (by kernel_rfl) (by decide)) Tryz.bits_Mul64 n
noncomputable def o190 (n : Nat) := oc 190 P190 R190 (O.mul64 n)
abbrev P191 : List SV := [V6, V6, V6]
abbrev R191 : RV := .many [V6, V6]
theorem ok191 (n : Nat) : FO 191 P191 R191 (O.add64 n) := add64_ok (fun x y c hx hy hc w => by rw [run_callFunc_extern Tryz.func191 (by kernel_rfl) (by kernel_rfl) (by kernel_rfl) (e := Go.add64Entry) (by kernel_rfl), Go.run_add64 x y c (by omega) (by omega) (by omega) (by omega)]; simp only [Result.andThen]; congr 5 <;> omega) n
noncomputable def o191 (n : Nat) := oc 191 P191 R191 (O.add64 n)
noncomputable def cx134 (X : Type) (n : Nat) : Cx X := mkCx tab.get [(134, Tryz.f134)] [o190 n, o191 n] [] [] [] []
theorem cx134_ok (X : Type) (n : Nat) : CxOK Tryz.prog SW (cx134 X n) := mx (T1 (J Tryz.func134 (by decide))) (J (orcOf_ok (ok190 n)) (T1 (orcOf_ok (ok191 n)))) (T1 (okc trivial trivial)) trivial
abbrev P134 : List SV := [V6, V6]
abbrev R134 : RV := .many [V6, .bool]
theorem ok134 (n : Nat) : FO 134 P134 R134 (F.dec_times n) := fnOK_of WOf.st (cx134_ok _ n) (d := 8) fun _ => by kernel_rfl
noncomputable def o134 (n : Nat) := oc 134 P134 R134 (F.dec_times n)
def qh2 : Shape := ⟨[(1, (.const (.ref 0 0))), (2, (.const (.ref 1 0)))], [[.bool, V6, V0], [.bool, V6, V0]], [], [], [], 2, 0, 0⟩
def qe2_0 : Shape := ⟨[(1, (.const (.ref 0 0))), (2, (.const (.ref 1 0)))], [[.bool, V6, V0], [.bool, V6, V0]], [], [], [], 2, 0, 0⟩
noncomputable def ql2 (X : Type) (n : Nat) : LoopI X := mkLi 8 0 0 0 qh2 [(0, qe2_0)] [] n fun m ks => F.dec_Normal.L3 n (xe qe2_0 ks 0) m
def qh3 : Shape := ⟨[(1, (.const (.ref 0 0))), (2, (.const (.ref 1 0)))], [[.bool, V6, V0], [.bool, V6, V0]], [], [], [], 2, 0, 0⟩
def qe3_2 : Shape := ⟨[(1, (.const (.ref 0 0))), (2, (.const (.ref 1 0)))], [[.bool, V6, V0], [.bool, V6, V0]], [], [], [], 2, 0, 0⟩
def qe3_r : Shape := ⟨[(2, (.const (.ref 1 0))), (3, V0)], [[.bool, V6, V0], [.bool, V6, V0]], [], [], [], 2, 0, 0⟩
noncomputable def ql3 (X : Type) (n : Nat) : LoopI X := mkLi 8 0 0 0 qh3 [(2, qe3_2)] [qe3_r] n fun m ks => F.dec_Normal.L5 n (xe qe3_2 ks 2) (xr qe3_r ks) m
noncomputable def cx67 (X : Type) (n : Nat) : Cx X := mkCx tab.get [(67, Tryz.f67)] [o134 n] [(67, 3, [ql2 X n]), (67, 5, [ql3 X n])] [] [] []
theorem qo2 (X : Type) (n : Nat) : LO (cx67 X n) 67 Tryz.f67 0 (ql2 X n) := lok
theorem qo3 (X : Type) (n : Nat) : LO (cx67 X n) 67 Tryz.f67 1 (ql3 X n) := lok
theorem cx67_ok (X : Type) (n : Nat) : CxOK Tryz.prog SW (cx67 X n) := mx (T1 (J Tryz.func67 (by decide))) (T1 (orcOf_ok (ok134 n))) (T1 (okc (J (T1 (qo2 X n)) (T1 (T1 (qo3 X n)))) trivial)) trivial
abbrev P67 : List SV := [V7]
abbrev R67 : RV := .many [V7, V0]
theorem ok67 (n : Nat) : FO 67 P67 R67 (F.dec_Normal n) := fnOK_of WOf.st (cx67_ok _ n) (d := 8) fun _ => by kernel_rfl
noncomputable def o67 (n : Nat) := oc 67 P67 R67 (F.dec_Normal n)
abbrev P169 : List SV := [.str, .str]
abbrev R169 : RV := .one .str
theorem ok169 (n : Nat) : FO 169 P169 R169 (O.trimR n) := trimR_ok (enters Tryz.func169 (by kernel_rfl) (by decide)) Tryz.strings_TrimRight_one n
noncomputable def o169 (n : Nat) := oc 169 P169 R169 (O.trimR n)
noncomputable def cx175 (X : Type) (n : Nat) : Cx X := mkCx tab.get [(175, Tryz.f175)] [] [] [] [] []
theorem cx175_ok (X : Type) (n : Nat) : CxOK Tryz.prog SW (cx175 X n) := mx (T1 (J Tryz.func175 (by decide))) trivial (T1 (okc trivial trivial)) trivial
abbrev P175 : List SV := [.str, .str]
abbrev R175 : RV := .one .bool
theorem ok175 (n : Nat) : FO 175 P175 R175 (F.stringslite_HasPrefix n) := fnOK_of WOf.st (cx175_ok _ n) (d := 8) fun _ => by kernel_rfl
noncomputable def o175 (n : Nat) := oc 175 P175 R175 (F.stringslite_HasPrefix n)
noncomputable def cx118 (X : Type) (n : Nat) : Cx X := mkCx tab.get [(118, Tryz.f118)] [o175 n] [] [] [] []
theorem cx118_ok (X : Type) (n : Nat) : CxOK Tryz.prog SW (cx118 X n) := mx (T1 (J Tryz.func118 (by decide))) (T1 (orcOf_ok (ok175 n))) (T1 (okc trivial trivial)) trivial
abbrev P118 : List SV := [.str, .str]
abbrev R118 : RV := .one .bool
theorem ok118 (n : Nat) : FO 118 P118 R118 (F.strings_HasPrefix n) := fnOK_of WOf.st (cx118_ok _ n) (d := 8) fun _ => by kernel_rfl
noncomputable def o118 (n : Nat) := oc 118 P118 R118 (F.strings_HasPrefix n)
def qh4 : Shape := ⟨[(0, (.const (.ref 2 0))), (1, (.const (.ref 0 0))), (3, V0)], [[.str], [V0, V0], [V0]], [], [], [], 3, 0, 0⟩
def qe4_0 : Shape := ⟨[(0, (.const (.ref 2 0))), (3, V0)], [[.str], [V0, V0], [V0]], [], [], [], 3, 0, 0⟩
noncomputable def ql4 (X : Type) (n : Nat) : LoopI X := mkLi 7 3 0 0 qh4 [(0, qe4_0)] [] n fun m ks => F.dec_look.L2_dec_look_1 n (xe qe4_0 ks 0) m
noncomputable def cx172 (X : Type) (n : Nat) : Cx X := mkCx tab.get [(172, Tryz.f172), (211, Tryz.f211)] [o118 n] [(211, 2, [ql4 X n])] [] [] []
theorem qo4 (X : Type) (n : Nat) : LO (cx172 X n) 211 Tryz.f211 0 (ql4 X n) := lok
theorem cx172_ok (X : Type) (n : Nat) : CxOK Tryz.prog SW (cx172 X n) := mx (J (J Tryz.func172 (by decide)) (T1 (J Tryz.func211 (by decide)))) (T1 (orcOf_ok (ok118 n))) (J (okc trivial trivial) (T1 (okc (T1 (T1 (qo4 X n))) trivial))) trivial
abbrev P172 : List SV := [.str]
abbrev R172 : RV := .one V2
theorem ok172 (n : Nat) : FO 172 P172 R172 (F.dec_look n) := fnOK_of WOf.st (cx172_ok _ n) (d := 8) fun _ => by kernel_rfl
noncomputable def o172 (n : Nat) := oc 172 P172 R172 (F.dec_look n)
noncomputable def cx212 (X : Type) (n : Nat) : Cx X := mkCx tab.get [(212, Tryz.f212)] [o175 n] [] [] [] []
theorem cx212_ok (X : Type) (n : Nat) : CxOK Tryz.prog SW (cx212 X n) := mx (T1 (J Tryz.func212 (by decide))) (T1 (orcOf_ok (ok175 n))) (T1 (okc trivial trivial)) trivial
abbrev P212 : List SV := [.str, .str]
abbrev R212 : RV := .many [.str, .bool]
theorem ok212 (n : Nat) : FO 212 P212 R212 (F.stringslite_CutPrefix n) := fnOK_of WOf.st (cx212_ok _ n) (d := 8) fun _ => by kernel_rfl
noncomputable def o212 (n : Nat) := oc 212 P212 R212 (F.stringslite_CutPrefix n)
noncomputable def cx173 (X : Type) (n : Nat) : Cx X := mkCx tab.get [(173, Tryz.f173)] [o212 n] [] [] [] []
theorem cx173_ok (X : Type) (n : Nat) : CxOK Tryz.prog SW (cx173 X n) := mx (T1 (J Tryz.func173 (by decide))) (T1 (orcOf_ok (ok212 n))) (T1 (okc trivial trivial)) trivial
abbrev P173 : List SV := [.str, .str]
abbrev R173 : RV := .many [.str, .bool]
theorem ok173 (n : Nat) : FO 173 P173 R173 (F.strings_CutPrefix n) := fnOK_of WOf.st (cx173_ok _ n) (d := 8) fun _ => by kernel_rfl
noncomputable def o173 (n : Nat) := oc 173 P173 R173 (F.strings_CutPrefix n)
abbrev P174 : List SV := [.str, .str]
abbrev R174 : RV := .one .str
theorem ok174 (n : Nat) : FO 174 P174 R174 (O.trimL n) := trimL_ok (enters Tryz.func174 (by kernel_rfl) (by decide)) Tryz.strings_TrimLeft_one n
noncomputable def o174 (n : Nat) := oc 174 P174 R174 (O.trimL n)
def qh5 : Shape := ⟨[(2, (.const (.ref 0 0))), (3, (.const (.ref 1 0))), (10, .str), (11, (.const (.ref 3 0))), (66, V0), (67, V0)], [[.bool, V6, V0], [V0, V0], [V0, V0], [.bool, V6, V0]], [], [], [], 4, 0, 0⟩
def qe5_0 : Shape := ⟨[(2, (.const (.ref 0 0))), (3, (.const (.ref 1 0))), (11, (.const (.ref 3 0)))], [[.bool, V6, V0], [V0, V0], [V0, V0], [.bool, V6, V0]], [], [], [], 4, 0, 0⟩
noncomputable def ql5 (X : Type) (n : Nat) : LoopI X := mkLi 8 0 0 0 qh5 [(0, qe5_0)] [] n fun m ks => F.dec_Parse.L14 n (xe qe5_0 ks 0) m
noncomputable def cx116 (X : Type) (n : Nat) : Cx X := mkCx tab.get [(116, Tryz.f116)] [o67 n, o113 n, o134 n, o169 n, o172 n, o173 n, o174 n] [(116, 14, [ql5 X n])] [] [(116, 3, [(1, 2)])] []
theorem qo5 (X : Type) (n : Nat) : LO (cx116 X n) 116 Tryz.f116 0 (ql5 X n) := lok
theorem cx116_ok (X : Type) (n : Nat) : CxOK Tryz.prog SW (cx116 X n) := mx (T1 (J Tryz.func116 (by decide))) (J (orcOf_ok (ok67 n)) (J (orcOf_ok (ok113 n)) (J (orcOf_ok (ok134 n)) (J (orcOf_ok (ok169 n)) (J (orcOf_ok (ok172 n)) (J (orcOf_ok (ok173 n)) (T1 (orcOf_ok (ok174 n))))))))) (T1 (okc (T1 (T1 (qo5 X n))) trivial)) trivial
abbrev P116 : List SV := [.str]
abbrev R116 : RV := .many [V7, V2]
theorem ok116 (n : Nat) : FO 116 P116 R116 (F.dec_Parse n) := fnOK_of WOf.st (cx116_ok _ n) (d := 8) fun _ => by kernel_rfl
noncomputable def o116 (n : Nat) := oc 116 P116 R116 (F.dec_Parse n)
abbrev P109 : List SV := [V0]
abbrev R109 : RV := .many [.str, V0]
theorem ok109 (n : Nat) : FO 109 P109 R109 (O.word n) := word_ok (enters Tryz.func109 (by kernel_rfl) (by decide)) Tryz.statsd_Word n
noncomputable def o109 (n : Nat) := oc 109 P109 R109 (O.word n)
def qh6 : Shape := ⟨[(0, .str), (4, V0)], [], [], [], [], 0, 0, 0⟩
def qe6_0 : Shape := ⟨[], [], [], [], [], 0, 0, 0⟩
def qe6_r : Shape := ⟨[(2, V0), (3, V0)], [], [], [], [], 0, 0, 0⟩
noncomputable def ql6 (X : Type) (n : Nat) : LoopI X := mkLi 8 0 0 0 qh6 [(0, qe6_0)] [qe6_r] n fun m ks => F.statsd_Kind.L2 n (fun _ => xe qe6_0 ks 0) (xr qe6_r ks) m
noncomputable def cx117 (X : Type) (n : Nat) : Cx X := mkCx tab.get [(117, Tryz.f117)] [o109 n] [(117, 2, [ql6 X n])] [] [] []
theorem qo6 (X : Type) (n : Nat) : LO (cx117 X n) 117 Tryz.f117 0 (ql6 X n) := lok
theorem cx117_ok (X : Type) (n : Nat) : CxOK Tryz.prog SW (cx117 X n) := mx (T1 (J Tryz.func117 (by decide))) (T1 (orcOf_ok (ok109 n))) (T1 (okc (T1 (T1 (qo6 X n))) trivial)) trivial
abbrev P117 : List SV := [.str]
abbrev R117 : RV := .many [V0, V0]
theorem ok117 (n : Nat) : FO 117 P117 R117 (F.statsd_Kind n) := fnOK_of WOf.st (cx117_ok _ n) (d := 8) fun _ => by kernel_rfl
noncomputable def o117 (n : Nat) := oc 117 P117 R117 (F.statsd_Kind n)
noncomputable def cx176 (X : Type) (n : Nat) : Cx X := mkCx tab.get [(176, Tryz.f176)] [] [] [] [] []
theorem cx176_ok (X : Type) (n : Nat) : CxOK Tryz.prog SW (cx176 X n) := mx (T1 (J Tryz.func176 (by decide))) trivial (T1 (okc trivial trivial)) trivial
abbrev P176 : List SV := [V0, V0]
abbrev R176 : RV := .many [V0, V2]
theorem ok176 (n : Nat) : FO 176 P176 R176 (F.num_fault n) := fnOK_of WOf.st (cx176_ok _ n) (d := 8) fun _ => by kernel_rfl
noncomputable def o176 (n : Nat) := oc 176 P176 R176 (F.num_fault n)
def qh7 : Shape := ⟨[(0, .str), (3, (.const (.ref 0 0))), (4, (.const (.ref 1 0))), (16, V8), (17, V0)], [[V0, V0], [V0, V0]], [], [], [], 2, 0, 0⟩
def qe7_0 : Shape := ⟨[(0, .str), (3, (.const (.ref 0 0))), (4, (.const (.ref 1 0)))], [[V0, V0], [V0, V0]], [], [], [], 2, 0, 0⟩
noncomputable def ql7 (X : Type) (n : Nat) : LoopI X := mkLi 8 0 0 0 qh7 [(0, qe7_0)] [] n fun m ks => F.num_Rate.L5 n (xe qe7_0 ks 0) m
def qh8 : Shape := ⟨[(3, (.const (.ref 0 0))), (7, .str), (9, (.const (.ref 3 0))), (10, (.const (.fn 177 [] [(.ref 3 0)]))), (81, V0)], [[V0, V0], [V0, V0], [V0, V0], [V0]], [], [], [], 4, 0, 0⟩
def qe8_3 : Shape := ⟨[(3, (.const (.ref 0 0))), (9, (.const (.ref 3 0)))], [[V0, V0], [V0, V0], [V0, V0], [V0]], [], [], [], 4, 0, 0⟩
noncomputable def ql8 (X : Type) (n : Nat) : LoopI X := mkLi 8 0 0 0 qh8 [(3, qe8_3)] [] n fun m ks => F.num_Rate.L23 n (xe qe8_3 ks 3) m
noncomputable def cx119 (X : Type) (n : Nat) : Cx X := mkCx tab.get [(119, Tryz.f119), (177, Tryz.f177)] [o114 n, o176 n] [(119, 5, [ql7 X n]), (119, 23, [ql8 X n])] [] [] []
theorem qo7 (X : Type) (n : Nat) : LO (cx119 X n) 119 Tryz.f119 0 (ql7 X n) := lok
theorem qo8 (X : Type) (n : Nat) : LO (cx119 X n) 119 Tryz.f119 1 (ql8 X n) := lok
theorem cx119_ok (X : Type) (n : Nat) : CxOK Tryz.prog SW (cx119 X n) := mx (J (J Tryz.func119 (by decide)) (T1 (J Tryz.func177 (by decide)))) (J (orcOf_ok (ok114 n)) (T1 (orcOf_ok (ok176 n)))) (J (okc (J (T1 (qo7 X n)) (T1 (T1 (qo8 X n)))) trivial) (T1 (okc trivial trivial))) trivial
abbrev P119 : List SV := [.str]
abbrev R119 : RV := .many [V0, V2]
theorem ok119 (n : Nat) : FO 119 P119 R119 (F.num_Rate n) := fnOK_of WOf.st (cx119_ok _ n) (d := 8) fun _ => by kernel_rfl
noncomputable def o119 (n : Nat) := oc 119 P119 R119 (F.num_Rate n)
def qh9 : Shape := ⟨[(2, (.const (.ref 1 0))), (3, (.const (.ref 2 0))), (4, (.const (.ref 3 0))), (6, (.const (.ref 4 0))), (9, .bool), (19, V0), (141, .bool)], [[.str], [.str, V0, (.sl Y2 (.own 0)), V0, (.sl Y3 (.own 1)), V0], [V0, V0], [V0], [.str, V0, (.sl Y2 (.own 2)), V0, (.sl Y3 (.own 3)), V0]], [true, true, true, true], [], [], 5, 0, 0⟩
def qe9_r : Shape := ⟨[(2, (.const (.ref 1 0))), (3, (.const (.ref 2 0)))], [[.str], [.str, V0, V3, V0, V4, V0], [V0, V0]], [], [], [], 3, 0, 0⟩
def qe9_n : Shape := ⟨[(2, (.const (.ref 1 0))), (3, (.const (.ref 2 0))), (4, (.const (.ref 3 0))), (6, (.const (.ref 4 0))), (9, .bool)], [[.str], [.str, V0, (.sl Y2 (.own 0)), V0, (.sl Y3 (.own 1)), V0], [V0, V0], [V0], [.str, V0, (.sl Y2 (.own 2)), V0, (.sl Y3 (.own 3)), V0]], [true, true, true, true], [], [], 5, 0, 0⟩
noncomputable def ql9 (X : Type) (n : Nat) : CutI X := mkCi 8 0 0 0 qh9 [qe9_n] [] [qe9_r] fun ks => F.statsd_Parse.C30 n (xr qe9_r ks) (xn qe9_n ks)
def qh10 : Shape := ⟨[(2, (.const (.ref 1 0))), (3, (.const (.ref 2 0))), (4, (.const (.ref 3 0))), (6, (.const (.ref 4 0))), (9, .bool)], [[.str], [.str, V0, (.sl Y2 (.own 0)), V0, (.sl Y3 (.own 1)), V0], [V0, V0], [V0], [.str, V0, (.sl Y2 (.own 2)), V0, (.sl Y3 (.own 3)), V0]], [true, true, true, true], [], [], 5, 0, 0⟩
def qe10_r : Shape := ⟨[(2, (.const (.ref 1 0))), (3, (.const (.ref 2 0)))], [[.str], [.str, V0, V3, V0, V4, V0], [V0, V0]], [], [], [], 3, 0, 0⟩
noncomputable def ql10 (X : Type) (n : Nat) : CutI X := mkCi 8 0 0 0 qh10 [] [] [qe10_r] fun ks => F.statsd_Parse.C31 n (xr qe10_r ks)
def qh11 : Shape := ⟨[(2, (.const (.ref 1 0))), (3, (.const (.ref 2 0))), (4, (.const (.ref 3 0))), (6, (.const (.ref 4 0))), (9, .bool), (13, (.const (.ref 6 0))), (16, V0), (18, .str), (19, V0)], [[.str], [.str, V0, (.sl Y2 (.own 0)), V0, (.sl Y3 (.own 1)), V0], [V0, V0], [V0], [.str, V0, (.sl Y2 (.own 2)), V0, (.sl Y3 (.own 3)), V0], [.bool, V6, V0], [V0, V0]], [true, true, true, true], [], [], 7, 0, 0⟩
def qe11_r : Shape := ⟨[(2, (.const (.ref 1 0))), (3, (.const (.ref 2 0)))], [[.str], [.str, V0, V3, V0, V4, V0], [V0, V0]], [], [], [], 3, 0, 0⟩
noncomputable def ql11 (X : Type) (n : Nat) : CutI X := mkCi 8 0 0 0 qh11 [] [] [qe11_r] fun ks => F.statsd_Parse.C28 n (xr qe11_r ks)
def qh12 : Shape := ⟨[(1, (.const (.ref 0 0))), (2, (.const (.ref 1 0))), (3, (.const (.ref 2 0))), (4, (.const (.ref 3 0))), (5, (.const (.fn 112 [] [(.ref 3 0), (.ref 0 0)]))), (6, (.const (.ref 4 0))), (7, .str), (9, .bool), (12, (.const (.ref 5 0))), (13, (.const (.ref 6 0))), (16, V0)], [[.str], [.str, V0, (.sl Y2 (.own 0)), V0, (.sl Y3 (.own 1)), V0], [V0, V0], [V0], [.str, V0, (.sl Y2 (.own 2)), V0, (.sl Y3 (.own 3)), V0], [.bool, V6, V0], [V0, V0]], [true, true, true, true], [], [], 7, 0, 0⟩
def qe12_r : Shape := ⟨[(2, (.const (.ref 1 0))), (3, (.const (.ref 2 0)))], [[.str], [.str, V0, V3, V0, V4, V0], [V0, V0]], [], [], [], 3, 0, 0⟩
noncomputable def ql12 (X : Type) (n : Nat) : CutI X := mkCi 8 0 0 0 qh12 [] [] [qe12_r] fun ks => F.statsd_Parse.C21 n (xr qe12_r ks)
def qh13 : Shape := ⟨[(1, (.const (.ref 0 0))), (2, (.const (.ref 1 0))), (3, (.const (.ref 2 0))), (4, (.const (.ref 3 0))), (5, (.const (.fn 112 [] [(.ref 3 0), (.ref 0 0)]))), (6, (.const (.ref 4 0))), (7, .str), (9, .bool), (10, .str), (11, V0), (12, (.const (.ref 5 0))), (13, (.const (.ref 6 0))), (14, .str), (15, V0)], [[.str], [.str, V0, (.sl Y2 (.own 0)), V0, (.sl Y3 (.own 1)), V0], [V0, V0], [V0], [.str, V0, (.sl Y2 (.own 2)), V0, (.sl Y3 (.own 3)), V0], [.bool, V6, V0], [V0, V0]], [true, true, true, true], [], [], 7, 0, 0⟩
def qe13_r : Shape := ⟨[(2, (.const (.ref 1 0))), (3, (.const (.ref 2 0)))], [[.str], [.str, V0, V3, V0, V4, V0], [V0, V0]], [], [], [], 3, 0, 0⟩
noncomputable def ql13 (X : Type) (n : Nat) : CutI X := mkCi 8 0 0 0 qh13 [] [] [qe13_r] fun ks => F.statsd_Parse.C16 n (xr qe13_r ks)
def qh14 : Shape := ⟨[(1, (.const (.ref 0 0))), (2, (.const (.ref 1 0))), (3, (.const (.ref 2 0))), (4, (.const (.ref 3 0))), (5, (.const (.fn 112 [] [(.ref 3 0), (.ref 0 0)]))), (6, (.const (.ref 4 0))), (7, .str), (9, .bool), (10, .str), (11, V0)], [[.str], [.str, V0, (.sl Y2 (.own 0)), V0, (.sl Y3 (.own 1)), V0], [V0, V0], [V0], [.str, V0, (.sl Y2 (.own 2)), V0, (.sl Y3 (.own 3)), V0]], [true, true, true, true], [], [], 5, 0, 0⟩
def qe14_r : Shape := ⟨[(2, (.const (.ref 1 0))), (3, (.const (.ref 2 0)))], [[.str], [.str, V0, V3, V0, V4, V0], [V0, V0]], [], [], [], 3, 0, 0⟩
noncomputable def ql14 (X : Type) (n : Nat) : CutI X := mkCi 8 0 0 0 qh14 [] [] [qe14_r] fun ks => F.statsd_Parse.C10 n (xr qe14_r ks)
def qh15 : Shape := ⟨[(1, (.const (.ref 0 0))), (2, (.const (.ref 1 0))), (3, (.const (.ref 2 0))), (4, (.const (.ref 3 0))), (5, (.const (.fn 112 [] [(.ref 3 0), (.ref 0 0)]))), (6, (.const (.ref 4 0))), (7, .str), (9, .bool)], [[.str], [.str, V0, (.sl Y2 (.own 0)), V0, (.sl Y3 (.own 1)), V0], [V0, V0], [V0], [.str, V0, (.sl Y2 (.own 2)), V0, (.sl Y3 (.own 3)), V0]], [true, true, true, true], [], [], 5, 0, 0⟩
def qe15_r : Shape := ⟨[(2, (.const (.ref 1 0))), (3, (.const (.ref 2 0)))], [[.str], [.str, V0, V3, V0, V4, V0], [V0, V0]], [], [], [], 3, 0, 0⟩
noncomputable def ql15 (X : Type) (n : Nat) : CutI X := mkCi 8 0 0 0 qh15 [] [] [qe15_r] fun ks => F.statsd_Parse.C5 n (xr qe15_r ks)
noncomputable def cx58 (X : Type) (n : Nat) : Cx X := mkCx tab.get [(58, Tryz.f58), (112, Tryz.f112)] [o113 n, o114 n, o115 n, o116 n, o117 n, o118 n, o119 n] [] [] [(58, 21, [(2, 5), (2, 7)])] [] [(58, 5, [ql15 X n]), (58, 10, [ql14 X n]), (58, 16, [ql13 X n]), (58, 21, [ql12 X n]), (58, 28, [ql11 X n]), (58, 30, [ql9 X n]), (58, 31, [ql10 X n])]
theorem qo9 (X : Type) (n : Nat) : CO (cx58 X n) 58 Tryz.f58 37 (ql9 X n) := fun _ _ => by kernel_rfl
theorem qo10 (X : Type) (n : Nat) : CO (cx58 X n) 58 Tryz.f58 36 (ql10 X n) := fun _ _ => by kernel_rfl
theorem qo11 (X : Type) (n : Nat) : CO (cx58 X n) 58 Tryz.f58 34 (ql11 X n) := fun _ _ => by kernel_rfl
theorem qo12 (X : Type) (n : Nat) : CO (cx58 X n) 58 Tryz.f58 21 (ql12 X n) := fun _ _ => by kernel_rfl
theorem qo13 (X : Type) (n : Nat) : CO (cx58 X n) 58 Tryz.f58 19 (ql13 X n) := fun _ _ => by kernel_rfl
theorem qo14 (X : Type) (n : Nat) : CO (cx58 X n) 58 Tryz.f58 11 (ql14 X n) := fun _ _ => by kernel_rfl
theorem qo15 (X : Type) (n : Nat) : CO (cx58 X n) 58 Tryz.f58 4 (ql15 X n) := fun _ _ => by kernel_rfl
theorem cx58_ok (X : Type) (n : Nat) : CxOK Tryz.prog SW (cx58 X n) := mx (J (J Tryz.func58 (by decide)) (T1 (J Tryz.func112 (by decide)))) (J (orcOf_ok (ok113 n)) (J (orcOf_ok (ok114 n)) (J (orcOf_ok (ok115 n)) (J (orcOf_ok (ok116 n)) (J (orcOf_ok (ok117 n)) (J (orcOf_ok (ok118 n)) (T1 (orcOf_ok (ok119 n))))))))) (J (okk (J trivial (J trivial (J trivial (J trivial (J (T1 (qo15 X n)) (J trivial (J trivial (J trivial (J trivial (J trivial (J trivial (J (T1 (qo14 X n)) (J trivial (J trivial (J trivial (J trivial (J trivial (J trivial (J trivial (J (T1 (qo13 X n)) (J trivial (J (T1 (qo12 X n)) (J trivial (J trivial (J trivial (J trivial (J trivial (J trivial (J trivial (J trivial (J trivial (J trivial (J trivial (J trivial (J (T1 (qo11 X n)) (J trivial (J (T1 (qo10 X n)) (J (T1 (qo9 X n)) (J trivial (J trivial (J trivial (J trivial (T1 trivial))))))))))))))))))))))))))))))))))))))))))) trivial trivial) (T1 (okc trivial trivial))) trivial
abbrev P58 : List SV := [.str]
abbrev R58 : RV := .many [V5, V2]
theorem ok58 (n : Nat) : FO 58 P58 R58 (F.statsd_Parse n) := fnOK_of WOf.st (cx58_ok _ n) (d := 8) fun _ => by kernel_rfl
noncomputable def o58 (n : Nat) := oc 58 P58 R58 (F.statsd_Parse n)
noncomputable def cx140 (X : Type) (n : Nat) : Cx X := mkCx tab.get [(140, Tryz.f140)] [] [] [] [] []
theorem cx140_ok (X : Type) (n : Nat) : CxOK Tryz.prog SW (cx140 X n) := mx (T1 (J Tryz.func140 (by decide))) trivial (T1 (okc trivial trivial)) trivial
abbrev P140 : List SV := [V4]
abbrev R140 : RV := .one V4
theorem ok140 (n : Nat) : FO 140 P140 R140 (F.slices_Clip_api_Tag_api_Tag n) := fnOK_of WOf.st (cx140_ok _ n) (d := 8) fun _ => by kernel_rfl
noncomputable def o140 (n : Nat) := oc 140 P140 R140 (F.slices_Clip_api_Tag_api_Tag n)
def qh16 : Shape := ⟨[(3, (.ms 2 Y3)), (4, V0), (11, (.ms 2 Y3)), (12, V0), (13, V0)], [[(.row Y3)], [(.row Y3)], [(.row Y3)]], [], [], [], 3, 0, 0⟩
def qe16_0 : Shape := ⟨[(3, (.ms 2 Y3)), (4, V0)], [[(.row Y3)], [(.row Y3)], [(.row Y3)]], [], [], [], 3, 0, 0⟩
noncomputable def ql16 (X : Type) (n : Nat) : LoopI X := mkLi 8 0 0 0 qh16 [(0, qe16_0)] [] n fun m ks => F.tag_Normal.L5 n (xe qe16_0 ks 0) m
noncomputable def cx68 (X : Type) (n : Nat) : Cx X := mkCx tab.get [(68, Tryz.f68), (135, Tryz.f135)] [o140 n] [(68, 5, [ql16 X n])] [] [] [] [] [(34, Y3)] [(136, .sort Y3 137 sortTags)] none [135]
theorem qo16 (X : Type) (n : Nat) : LO (cx68 X n) 68 Tryz.f68 0 (ql16 X n) := lok
theorem cx68_ok (X : Type) (n : Nat) : CxOK Tryz.prog SW (cx68 X n) := mx (J (J Tryz.func68 (by decide)) (T1 (J Tryz.func135 (by decide)))) (T1 (orcOf_ok (ok140 n))) (J (okc (T1 (T1 (qo16 X n))) trivial) (T1 (okc trivial trivial))) trivial (T1 (sortTags_ok.mono (fun _ _ => trivial)))
abbrev P68 : List SV := [V4]
abbrev R68 : RV := .one V4
theorem ok68 (n : Nat) : FO 68 P68 R68 (F.tag_Normal n) := fnOK_of WOf.st (cx68_ok _ n) (d := 8) fun _ => by kernel_rfl
noncomputable def o68 (n : Nat) := oc 68 P68 R68 (F.tag_Normal n)
abbrev P126 : List SV := [.str, .str]
abbrev R126 : RV := .one V9
theorem ok126 (n : Nat) : FO 126 P126 R126 (O.split1 n) := split1_ok (enters Tryz.func126 (by kernel_rfl) (by decide)) Tryz.strings_Split_one n
noncomputable def o126 (n : Nat) := oc 126 P126 R126 (O.split1 n)
noncomputable def cx179 (X : Type) (n : Nat) : Cx X := mkCx tab.get [(179, Tryz.f179)] [] [] [] [] []
theorem cx179_ok (X : Type) (n : Nat) : CxOK Tryz.prog SW (cx179 X n) := mx (T1 (J Tryz.func179 (by decide))) trivial (T1 (okc trivial trivial)) trivial
abbrev P179 : List SV := []
abbrev R179 : RV := .one V10
theorem ok179 (n : Nat) : FO 179 P179 R179 (F.dog_words n) := fnOK_of WOf.st (cx179_ok _ n) (d := 8) fun _ => by kernel_rfl
noncomputable def o179 (n : Nat) := oc 179 P179 R179 (F.dog_words n)
def qh17 : Shape := ⟨[(0, .str), (6, V10), (7, V0)], [], [], [], [], 0, 0, 0⟩
def qe17_0 : Shape := ⟨[], [], [], [], [], 0, 0, 0⟩
def qe17_r : Shape := ⟨[(2, V0), (3, V0)], [], [], [], [], 0, 0, 0⟩
noncomputable def ql17 (X : Type) (n : Nat) : LoopI X := mkLi 8 0 0 0 qh17 [(0, qe17_0)] [qe17_r] n fun m ks => F.dog_Kind.L2 n (fun _ => xe qe17_0 ks 0) (xr qe17_r ks) m
noncomputable def cx183 (X : Type) (n : Nat) : Cx X := mkCx tab.get [(183, Tryz.f183)] [o179 n] [(183, 2, [ql17 X n])] [] [] []
theorem qo17 (X : Type) (n : Nat) : LO (cx183 X n) 183 Tryz.f183 0 (ql17 X n) := lok
theorem cx183_ok (X : Type) (n : Nat) : CxOK Tryz.prog SW (cx183 X n) := mx (T1 (J Tryz.func183 (by decide))) (T1 (orcOf_ok (ok179 n))) (T1 (okc (T1 (T1 (qo17 X n))) trivial)) trivial
abbrev P183 : List SV := [.str]
abbrev R183 : RV := .many [V0, V0]
theorem ok183 (n : Nat) : FO 183 P183 R183 (F.dog_Kind n) := fnOK_of WOf.st (cx183_ok _ n) (d := 8) fun _ => by kernel_rfl
noncomputable def o183 (n : Nat) := oc 183 P183 R183 (F.dog_Kind n)
abbrev P250 : List SV := [.str]
abbrev R250 : RV := .many [V0, .err]
theorem ok250 (n : Nat) : FO 250 P250 R250 (O.atoi n) := atoi_ok (enters Tryz.func250 (by kernel_rfl) (by decide)) (fun s hs v hv w hw => (Tryz.strconv_Atoi_ok s (by omega) v hv w).mono fun e w' ⟨a, b⟩ => ⟨a, by rcases b with rfl | ⟨t, rfl⟩; exact Below.refl _ _; exact below_bytes⟩)
  (fun s hs n1 n2 w hw => by obtain ⟨ev, hv, hev⟩ := swErrS hw; exact (Any.strconv_Atoi_syntax Tryz.laysC172 s (by omega) (by cases hq : Lib.atoiAll s.data.toList with | ok v => exact absurd hq (n1 v) | range => exact absurd hq n2 | _ => rfl) ev w hv hev).mono fun e w' ⟨N, a, _, _, b⟩ => ⟨⟨_, _, a⟩, b⟩)
  (fun s hs hq w hw => by obtain ⟨ev, hv, hev⟩ := swErrR hw; exact (Any.strconv_Atoi_range Tryz.laysC172 s (by omega) hq ev w hv hev).mono fun e w' ⟨N, a, _, _, b⟩ => ⟨⟨_, _, a⟩, b⟩) n
noncomputable def o250 (n : Nat) := oc 250 P250 R250 (O.atoi n)
noncomputable def cx221 (X : Type) (n : Nat) : Cx X := mkCx tab.get [(221, Tryz.f221)] [o114 n, o176 n, o250 n] [] [] [] []
theorem cx221_ok (X : Type) (n : Nat) : CxOK Tryz.prog SW (cx221 X n) := mx (T1 (J Tryz.func221 (by decide))) (J (orcOf_ok (ok114 n)) (J (orcOf_ok (ok176 n)) (T1 (orcOf_ok (ok250 n))))) (T1 (okc trivial trivial)) trivial
abbrev P221 : List SV := [.str, V0, V0]
abbrev R221 : RV := .many [V0, V2]
theorem ok221 (n : Nat) : FO 221 P221 R221 (F.num_Parse n) := fnOK_of WOf.st (cx221_ok _ n) (d := 8) fun _ => by kernel_rfl
noncomputable def o221 (n : Nat) := oc 221 P221 R221 (F.num_Parse n)
noncomputable def cx188 (X : Type) (n : Nat) : Cx X := mkCx tab.get [(188, Tryz.f188)] [o221 n] [] [] [] []
theorem cx188_ok (X : Type) (n : Nat) : CxOK Tryz.prog SW (cx188 X n) := mx (T1 (J Tryz.func188 (by decide))) (T1 (orcOf_ok (ok221 n))) (T1 (okc trivial trivial)) trivial
abbrev P188 : List SV := [.str]
abbrev R188 : RV := .many [V0, V2]
theorem ok188 (n : Nat) : FO 188 P188 R188 (F.num_Time n) := fnOK_of WOf.st (cx188_ok _ n) (d := 8) fun _ => by kernel_rfl
noncomputable def o188 (n : Nat) := oc 188 P188 R188 (F.num_Time n)
noncomputable def cx162 (X : Type) (n : Nat) : Cx X := mkCx tab.get [(162, Tryz.f162)] [o114 n] [] [] [] []
theorem cx162_ok (X : Type) (n : Nat) : CxOK Tryz.prog SW (cx162 X n) := mx (T1 (J Tryz.func162 (by decide))) (T1 (orcOf_ok (ok114 n))) (T1 (okc trivial trivial)) trivial
abbrev P162 : List SV := [V11]
abbrev R162 : RV := .one V0
theorem ok162 (n : Nat) : FO 162 P162 R162 (F.tag_Check n) := fnOK_of WOf.st (cx162_ok _ n) (d := 8) fun _ => by kernel_rfl
noncomputable def o162 (n : Nat) := oc 162 P162 R162 (F.tag_Check n)
def qh18 : Shape := ⟨[(3, (.const (.ref 0 0))), (4, (.sl Y3 (.own 0))), (5, V0), (13, V9), (14, V0), (15, V0)], [[V0, V0]], [true], [], [], 1, 0, 0⟩
def qe18_0 : Shape := ⟨[(3, (.const (.ref 0 0))), (4, (.sl Y3 (.own 0)))], [[V0, V0]], [true], [], [], 1, 0, 0⟩
def qe18_r : Shape := ⟨[(2, (.sl Y3 (.own 0))), (3, (.const (.ref 0 0)))], [[V0, V0]], [true], [], [], 1, 0, 0⟩
noncomputable def ql18 (X : Type) (n : Nat) : LoopI X := mkLi 8 0 0 0 qh18 [(0, qe18_0)] [qe18_r] n fun m ks => F.tag_Parse.L4 n (xe qe18_0 ks 0) (xr qe18_r ks) m
noncomputable def cx220 (X : Type) (n : Nat) : Cx X := mkCx tab.get [(220, Tryz.f220)] [o113 n, o126 n, o162 n] [(220, 4, [ql18 X n])] [] [] []
theorem qo18 (X : Type) (n : Nat) : LO (cx220 X n) 220 Tryz.f220 0 (ql18 X n) := lok
theorem cx220_ok (X : Type) (n : Nat) : CxOK Tryz.prog SW (cx220 X n) := mx (T1 (J Tryz.func220 (by decide))) (J (orcOf_ok (ok113 n)) (J (orcOf_ok (ok126 n)) (T1 (orcOf_ok (ok162 n))))) (T1 (okc (T1 (T1 (qo18 X n))) trivial)) trivial
abbrev P220 : List SV := [.str]
abbrev R220 : RV := .many [V4, V2]
theorem ok220 (n : Nat) : FO 220 P220 R220 (F.tag_Parse n) := fnOK_of WOf.st (cx220_ok _ n) (d := 8) fun _ => by kernel_rfl
noncomputable def o220 (n : Nat) := oc 220 P220 R220 (F.tag_Parse n)
def qh19 : Shape := ⟨[(0, (.const (.ref 2 0))), (4, (.const (.ref 4 0))), (8, V0), (42, V9), (43, V0), (44, V0)], [[.str, V0, (.sl Y2 (.own 0)), V0, (.sl Y3 (.own 1)), V0], [V0, V0], [.str, V0, (.sl Y2 (.own 2)), V0, V4, V0, V0, V0], [V0, V0], [V0, V0]], [true, true, true], [], [], 5, 3, 0⟩
def qe19_1 : Shape := ⟨[(4, (.const (.ref 4 0)))], [[.str, V0, (.sl Y2 (.own 0)), V0, (.sl Y3 (.own 1)), V0], [V0, V0], [.str, V0, (.sl Y2 (.own 2)), V0, V4, V0, V0, V0], [V0, V0], [V0, V0]], [true, true, true], [], [], 5, 3, 0⟩
def qe19_r : Shape := ⟨[(4, (.const (.ref 4 0)))], [[.str, V0, (.sl Y2 (.own 0)), V0, (.sl Y3 (.own 1)), V0], [V0, V0], [.str, V0, (.sl Y2 (.own 2)), V0, V4, V0, V0, V0], [V0, V0], [V0, V0]], [true, true, true], [], [], 5, 3, 0⟩
noncomputable def ql19 (X : Type) (n : Nat) : LoopI X := mkLi 7 4 3 0 qh19 [(1, qe19_1)] [qe19_r] n fun m ks => F.dog_Parse.L9_dog_reader_first n (xe qe19_1 ks 1) (xr qe19_r ks) m
def qh20 : Shape := ⟨[(0, (.const (.ref 2 0))), (1, .str), (4, (.const (.ref 4 0))), (19, V12), (20, V0)], [[.str, V0, (.sl Y2 (.own 0)), V0, (.sl Y3 (.own 1)), V0], [V0, V0], [.str, V0, (.sl Y2 (.own 2)), V0, V4, V0, V0, V0], [V0, V0], [V0, V0]], [true, true, true], [], [], 5, 3, 0⟩
def qe20_0 : Shape := ⟨[(0, (.const (.ref 2 0))), (4, (.const (.ref 4 0)))], [[.str, V0, (.sl Y2 (.own 0)), V0, (.sl Y3 (.own 1)), V0], [V0, V0], [.str, V0, (.sl Y2 (.own 2)), V0, V4, V0, V0, V0], [V0, V0], [V0, V0]], [true, true, true], [], [], 5, 3, 0⟩
def qe20_r : Shape := ⟨[(4, (.const (.ref 4 0)))], [[.str, V0, (.sl Y2 (.own 0)), V0, (.sl Y3 (.own 1)), V0], [V0, V0], [.str, V0, (.sl Y2 (.own 2)), V0, V4, V0, V0, V0], [V0, V0], [V0, V0]], [true, true, true], [], [], 5, 3, 0⟩
noncomputable def ql20 (X : Type) (n : Nat) : LoopI X := mkLi 7 4 3 0 qh20 [(0, qe20_0)] [qe20_r] n fun m ks => F.dog_Parse.L2_dog_reader_more n (xe qe20_0 ks 0) (xr qe20_r ks) m
def qh21 : Shape := ⟨[(0, .str), (2, (.const (.ref 0 0))), (3, (.const (.ref 1 0))), (4, (.const (.ref 2 0))), (5, V9), (6, (.const (.imms 2 [(.fn 127 [(.ref 2 0)] []), (.fn 128 [(.ref 2 0)] [])]))), (7, (.const (.ref 3 0))), (26, V9), (27, V0), (28, V0)], [[.str, V0, (.sl Y2 (.own 0)), V0, (.sl Y3 (.own 1)), V0], [V0, V0], [.str, V0, (.sl Y2 (.own 2)), V0, V4, V0, V0, V0], [V0, V0]], [true, true, true], [], [], 4, 0, 0⟩
def qe21_0 : Shape := ⟨[(0, .str), (2, (.const (.ref 0 0))), (3, (.const (.ref 1 0))), (4, (.const (.ref 2 0))), (5, V9), (6, (.const (.imms 2 [(.fn 127 [(.ref 2 0)] []), (.fn 128 [(.ref 2 0)] [])]))), (7, (.const (.ref 3 0)))], [[.str, V0, (.sl Y2 (.own 0)), V0, (.sl Y3 (.own 1)), V0], [V0, V0], [.str, V0, (.sl Y2 (.own 2)), V0, V4, V0, V0, V0], [V0, V0]], [true, true, true], [], [], 4, 0, 0⟩
noncomputable def ql21 (X : Type) (n : Nat) : LoopI X := mkLi 8 0 0 0 qh21 [(0, qe21_0)] [] n fun m ks => F.dog_Parse.L8 n (xe qe21_0 ks 0) m
noncomputable def cx60 (X : Type) (n : Nat) : Cx X := mkCx tab.get [(60, Tryz.f60), (127, Tryz.f127), (128, Tryz.f128), (129, Tryz.f129), (182, Tryz.f182), (184, Tryz.f184), (185, Tryz.f185), (186, Tryz.f186)] [o68 n, o113 n, o114 n, o116 n, o119 n, o126 n, o173 n, o183 n, o188 n, o220 n] [(60, 8, [ql21 X n]), (127, 9, [ql19 X n]), (129, 2, [ql20 X n])] [] [(60, 20, [(1, 2)]), (60, 21, [(4, 5)])] []
theorem qo19 (X : Type) (n : Nat) : LO (cx60 X n) 127 Tryz.f127 0 (ql19 X n) := lok
theorem qo20 (X : Type) (n : Nat) : LO (cx60 X n) 129 Tryz.f129 0 (ql20 X n) := lok
theorem qo21 (X : Type) (n : Nat) : LO (cx60 X n) 60 Tryz.f60 0 (ql21 X n) := lok
theorem cx60_ok (X : Type) (n : Nat) : CxOK Tryz.prog SW (cx60 X n) := mx (J (J Tryz.func60 (by decide)) (J (J Tryz.func127 (by decide)) (J (J Tryz.func128 (by decide)) (J (J Tryz.func129 (by decide)) (J (J Tryz.func182 (by decide)) (J (J Tryz.func184 (by decide)) (J (J Tryz.func185 (by decide)) (T1 (J Tryz.func186 (by decide)))))))))) (J (orcOf_ok (ok68 n)) (J (orcOf_ok (ok113 n)) (J (orcOf_ok (ok114 n)) (J (orcOf_ok (ok116 n)) (J (orcOf_ok (ok119 n)) (J (orcOf_ok (ok126 n)) (J (orcOf_ok (ok173 n)) (J (orcOf_ok (ok183 n)) (J (orcOf_ok (ok188 n)) (T1 (orcOf_ok (ok220 n)))))))))))) (J (okc (T1 (T1 (qo21 X n))) trivial) (J (okc (T1 (T1 (qo19 X n))) trivial) (J (okc trivial trivial) (J (okc (T1 (T1 (qo20 X n))) trivial) (J (okc trivial trivial) (J (okc trivial trivial) (J (okc trivial trivial) (T1 (okc trivial trivial))))))))) trivial
abbrev P60 : List SV := [.str]
abbrev R60 : RV := .many [V5, V2]
theorem ok60 (n : Nat) : FO 60 P60 R60 (F.dog_Parse n) := fnOK_of WOf.st (cx60_ok _ n) (d := 8) fun _ => by kernel_rfl
noncomputable def o60 (n : Nat) := oc 60 P60 R60 (F.dog_Parse n)
def qh22 : Shape := ⟨[(0, (.const (.yield 0))), (1, (.const (.ref 4 0))), (3, V0), (4, V0), (5, .bool)], [[.str, V0, (.sl Y2 (.own 0)), V0, (.sl Y3 (.own 1)), V0], [V0, V0], [.str, V0, (.sl Y2 (.own 2)), V0, (.sl Y3 (.own 3)), V0], [V0, V0], [.str]], [true, true, true, true], [.ready], [(0, 62, 4, [(4, (.const (.ref 2 0))), (5, (.const (.ref 3 0)))])], 5, 0, 1⟩
def qe22_0 : Shape := ⟨[], [[.str, V0, (.sl Y2 (.own 0)), V0, (.sl Y3 (.own 1)), V0], [V0, V0], [.str, V0, (.sl Y2 (.own 2)), V0, (.sl Y3 (.own 3)), V0], [V0, V0], [.str]], [true, true, true, true], [.ready], [], 5, 0, 1⟩
def qe22_r : Shape := ⟨[], [[.str, V0, (.sl Y2 (.own 0)), V0, (.sl Y3 (.own 1)), V0], [V0, V0], [.str, V0, (.sl Y2 (.own 2)), V0, (.sl Y3 (.own 3)), V0], [V0, V0], [.str]], [true, true, true, true], [.done (.ex 0)], [], 5, 0, 1⟩
noncomputable def ql22 (X : Type) (n : Nat) : LoopI X := mkLi 7 5 0 1 qh22 [(0, qe22_0)] [qe22_r] n fun m ks => F.graphite_Parse.L2_graphite_cut_1 n (xe qe22_0 ks 0) (xr qe22_r ks) m
noncomputable def cx62 (X : Type) (n : Nat) : Cx X := mkCx tab.get [(62, Tryz.f62), (130, Tryz.f130), (131, Tryz.f131), (187, Tryz.f187)] [o113 n, o114 n, o116 n, o188 n] [(187, 2, [ql22 X n])] [(62, 4, Tryz.f62, [4, 5], 0)] [(62, 13, [(1, 2)]), (62, 14, [(1, 2)])] []
theorem qo22 (X : Type) (n : Nat) : LO (cx62 X n) 187 Tryz.f187 0 (ql22 X n) := lok
theorem cx62_ok (X : Type) (n : Nat) : CxOK Tryz.prog SW (cx62 X n) := mx (J (J Tryz.func62 (by decide)) (J (J Tryz.func130 (by decide)) (J (J Tryz.func131 (by decide)) (T1 (J Tryz.func187 (by decide)))))) (J (orcOf_ok (ok113 n)) (J (orcOf_ok (ok114 n)) (J (orcOf_ok (ok116 n)) (T1 (orcOf_ok (ok188 n)))))) (J (okc trivial (T1 (rfo (cx := cx62 X n) (g := 62) (i := 4) (lv := [4, 5]) (show _ = some (Tryz.f62.ntmps, _, rfNo Tryz.f62 0) by kernel_rfl)))) (J (okc trivial trivial) (J (okc trivial trivial) (T1 (okc (T1 (T1 (qo22 X n))) trivial))))) (T1 (J Tryz.func62 rfl))
abbrev P62 : List SV := [.str]
abbrev R62 : RV := .many [V5, V2]
theorem ok62 (n : Nat) : FO 62 P62 R62 (F.graphite_Parse n) := fnOK_of WOf.st (cx62_ok _ n) (d := 8) fun _ => by kernel_rfl
noncomputable def o62 (n : Nat) := oc 62 P62 R62 (F.graphite_Parse n)
noncomputable def cx15 (X : Type) (n : Nat) : Cx X := mkCx tab.get [(15, Tryz.f15), (32, Tryz.f32)] [o58 n, o60 n, o62 n] [] [] [] []
theorem cx15_ok (X : Type) (n : Nat) : CxOK Tryz.prog SW (cx15 X n) := mx (J (J Tryz.func15 (by decide)) (T1 (J Tryz.func32 (by decide)))) (J (orcOf_ok (ok58 n)) (J (orcOf_ok (ok60 n)) (T1 (orcOf_ok (ok62 n))))) (J (okc trivial trivial) (T1 (okc trivial trivial))) trivial
abbrev P15 : List SV := [.str, V0]
abbrev R15 : RV := .many [V5, V2]
theorem ok15 (n : Nat) : FO 15 P15 R15 (F.text_Parse n) := fnOK_of WOf.st (cx15_ok _ n) (d := 8) fun _ => by kernel_rfl
noncomputable def o15 (n : Nat) := oc 15 P15 R15 (F.text_Parse n)
noncomputable def cx133 (X : Type) (n : Nat) : Cx X := mkCx tab.get [(133, Tryz.f133)] [] [] [] [] []
theorem cx133_ok (X : Type) (n : Nat) : CxOK Tryz.prog SW (cx133 X n) := mx (T1 (J Tryz.func133 (by decide))) trivial (T1 (okc trivial trivial)) trivial
abbrev P133 : List SV := [.str, .str]
abbrev R133 : RV := .one .bool
theorem ok133 (n : Nat) : FO 133 P133 R133 (F.stringslite_HasSuffix n) := fnOK_of WOf.st (cx133_ok _ n) (d := 8) fun _ => by kernel_rfl
noncomputable def o133 (n : Nat) := oc 133 P133 R133 (F.stringslite_HasSuffix n)
noncomputable def cx65 (X : Type) (n : Nat) : Cx X := mkCx tab.get [(65, Tryz.f65)] [o133 n] [] [] [] []
theorem cx65_ok (X : Type) (n : Nat) : CxOK Tryz.prog SW (cx65 X n) := mx (T1 (J Tryz.func65 (by decide))) (T1 (orcOf_ok (ok133 n))) (T1 (okc trivial trivial)) trivial
abbrev P65 : List SV := [.str, .str]
abbrev R65 : RV := .many [.str, .bool]
theorem ok65 (n : Nat) : FO 65 P65 R65 (F.stringslite_CutSuffix n) := fnOK_of WOf.st (cx65_ok _ n) (d := 8) fun _ => by kernel_rfl
noncomputable def o65 (n : Nat) := oc 65 P65 R65 (F.stringslite_CutSuffix n)
noncomputable def cx34 (X : Type) (n : Nat) : Cx X := mkCx tab.get [(34, Tryz.f34)] [o65 n] [] [] [] []
theorem cx34_ok (X : Type) (n : Nat) : CxOK Tryz.prog SW (cx34 X n) := mx (T1 (J Tryz.func34 (by decide))) (T1 (orcOf_ok (ok65 n))) (T1 (okc trivial trivial)) trivial
abbrev P34 : List SV := [.str, .str]
abbrev R34 : RV := .many [.str, .bool]
theorem ok34 (n : Nat) : FO 34 P34 R34 (F.strings_CutSuffix n) := fnOK_of WOf.st (cx34_ok _ n) (d := 8) fun _ => by kernel_rfl
noncomputable def o34 (n : Nat) := oc 34 P34 R34 (F.strings_CutSuffix n)
abbrev P132 : List SV := [.str, V1]
abbrev R132 : RV := .one V0
theorem ok132 (n : Nat) : FO 132 P132 R132 (O.indexB n) := indexB_ok (enters Tryz.func132 (by kernel_rfl) (by decide)) Tryz.stringslite_IndexByte n
noncomputable def o132 (n : Nat) := oc 132 P132 R132 (O.indexB n)
noncomputable def cx64 (X : Type) (n : Nat) : Cx X := mkCx tab.get [(64, Tryz.f64)] [o132 n] [] [] [] []
theorem cx64_ok (X : Type) (n : Nat) : CxOK Tryz.prog SW (cx64 X n) := mx (T1 (J Tryz.func64 (by decide))) (T1 (orcOf_ok (ok132 n))) (T1 (okc trivial trivial)) trivial
abbrev P64 : List SV := [.str, V1]
abbrev R64 : RV := .one V0
theorem ok64 (n : Nat) : FO 64 P64 R64 (F.strings_IndexByte n) := fnOK_of WOf.st (cx64_ok _ n) (d := 8) fun _ => by kernel_rfl
noncomputable def o64 (n : Nat) := oc 64 P64 R64 (F.strings_IndexByte n)
def qh23 : Shape := ⟨[(0, (.const (.yield 0))), (1, (.const (.ref 7 0)))], [[V0], [(.sl Y6 (.own 0))], [V0, V0], [(.const (.fn 57 [] [])), (.const (.fn 58 [] []))], [(.const (.fn 57 [] [])), (.const (.fn 58 [] []))], [(.sl Y6 (.own 1))], [V0], [.str]], [true, true], [.ready], [(0, 10, 7, [(3, (.const (.ref 0 0))), (4, (.const (.ref 1 0))), (5, (.const (.ref 2 0))), (8, (.const (.ref 5 0))), (9, (.const (.ref 6 0)))])], 8, 0, 1⟩
def qe23_0 : Shape := ⟨[], [[V0], [(.sl Y6 (.own 0))], [V0, V0], [(.const (.fn 57 [] [])), (.const (.fn 58 [] []))], [(.const (.fn 57 [] [])), (.const (.fn 58 [] []))], [(.sl Y6 (.own 1))], [V0], [.str]], [true, true], [.ready], [], 8, 0, 1⟩
def qe23_r : Shape := ⟨[], [[V0], [(.sl Y6 (.own 0))], [V0, V0], [(.const (.fn 57 [] [])), (.const (.fn 58 [] []))], [(.const (.fn 57 [] [])), (.const (.fn 58 [] []))], [(.sl Y6 (.own 1))], [V0], [.str]], [true, true], [.done .ret], [], 8, 0, 1⟩
noncomputable def ql23 (X : Type) (n : Nat) : LoopI X := mkLi 7 8 0 1 qh23 [(0, qe23_0)] [qe23_r] n fun m ks => F.text_Decode.L0_strings_Lines_1 n (xe qe23_0 ks 0) (xr qe23_r ks) m
def qh24 : Shape := ⟨[(0, (.const (.yield 0))), (1, (.const (.ref 7 0)))], [[V0], [(.sl Y6 (.own 0))], [V0, V0], [(.const (.fn 59 [] [])), (.const (.fn 60 [] []))], [(.const (.fn 59 [] [])), (.const (.fn 60 [] []))], [(.sl Y6 (.own 1))], [V0], [.str]], [true, true], [.ready], [(0, 10, 7, [(3, (.const (.ref 0 0))), (4, (.const (.ref 1 0))), (5, (.const (.ref 2 0))), (8, (.const (.ref 5 0))), (9, (.const (.ref 6 0)))])], 8, 0, 1⟩
def qe24_0 : Shape := ⟨[], [[V0], [(.sl Y6 (.own 0))], [V0, V0], [(.const (.fn 59 [] [])), (.const (.fn 60 [] []))], [(.const (.fn 59 [] [])), (.const (.fn 60 [] []))], [(.sl Y6 (.own 1))], [V0], [.str]], [true, true], [.ready], [], 8, 0, 1⟩
def qe24_r : Shape := ⟨[], [[V0], [(.sl Y6 (.own 0))], [V0, V0], [(.const (.fn 59 [] [])), (.const (.fn 60 [] []))], [(.const (.fn 59 [] [])), (.const (.fn 60 [] []))], [(.sl Y6 (.own 1))], [V0], [.str]], [true, true], [.done .ret], [], 8, 0, 1⟩
noncomputable def ql24 (X : Type) (n : Nat) : LoopI X := mkLi 7 8 0 1 qh24 [(0, qe24_0)] [qe24_r] n fun m ks => F.text_Decode.L0_strings_Lines_1 n (xe qe24_0 ks 0) (xr qe24_r ks) m
def qh25 : Shape := ⟨[(0, (.const (.yield 0))), (1, (.const (.ref 7 0)))], [[V0], [(.sl Y6 (.own 0))], [V0, V0], [(.const (.fn 61 [] [])), (.const (.fn 62 [] []))], [(.const (.fn 61 [] [])), (.const (.fn 62 [] []))], [(.sl Y6 (.own 1))], [V0], [.str]], [true, true], [.ready], [(0, 10, 7, [(3, (.const (.ref 0 0))), (4, (.const (.ref 1 0))), (5, (.const (.ref 2 0))), (8, (.const (.ref 5 0))), (9, (.const (.ref 6 0)))])], 8, 0, 1⟩
def qe25_0 : Shape := ⟨[], [[V0], [(.sl Y6 (.own 0))], [V0, V0], [(.const (.fn 61 [] [])), (.const (.fn 62 [] []))], [(.const (.fn 61 [] [])), (.const (.fn 62 [] []))], [(.sl Y6 (.own 1))], [V0], [.str]], [true, true], [.ready], [], 8, 0, 1⟩
def qe25_r : Shape := ⟨[], [[V0], [(.sl Y6 (.own 0))], [V0, V0], [(.const (.fn 61 [] [])), (.const (.fn 62 [] []))], [(.const (.fn 61 [] [])), (.const (.fn 62 [] []))], [(.sl Y6 (.own 1))], [V0], [.str]], [true, true], [.done .ret], [], 8, 0, 1⟩
noncomputable def ql25 (X : Type) (n : Nat) : LoopI X := mkLi 7 8 0 1 qh25 [(0, qe25_0)] [qe25_r] n fun m ks => F.text_Decode.L0_strings_Lines_1 n (xe qe25_0 ks 0) (xr qe25_r ks) m
noncomputable def cx10 (X : Type) (n : Nat) : Cx X := mkCx tab.get [(10, Tryz.f10), (32, Tryz.f32), (33, Tryz.f33), (63, Tryz.f63)] [o15 n, o34 n, o64 n] [(63, 0, [ql23 X n, ql24 X n, ql25 X n])] [(10, 7, Tryz.f10, [3, 4, 5, 8, 9], 0)] [(10, 17, [(1, 7), (2, 7), (4, 7)])] []
theorem qo23 (X : Type) (n : Nat) : LO (cx10 X n) 63 Tryz.f63 0 (ql23 X n) := lok
theorem qo24 (X : Type) (n : Nat) : LO (cx10 X n) 63 Tryz.f63 0 (ql24 X n) := lok
theorem qo25 (X : Type) (n : Nat) : LO (cx10 X n) 63 Tryz.f63 0 (ql25 X n) := lok
theorem cx10_ok (X : Type) (n : Nat) : CxOK Tryz.prog SW (cx10 X n) := mx (J (J Tryz.func10 (by decide)) (J (J Tryz.func32 (by decide)) (J (J Tryz.func33 (by decide)) (T1 (J Tryz.func63 (by decide)))))) (J (orcOf_ok (ok15 n)) (J (orcOf_ok (ok34 n)) (T1 (orcOf_ok (ok64 n))))) (J (okc trivial (T1 (rfo (cx := cx10 X n) (g := 10) (i := 7) (lv := [3, 4, 5, 8, 9]) (show _ = some (Tryz.f10.ntmps, _, rfNo Tryz.f10 0) by kernel_rfl)))) (J (okc trivial trivial) (J (okc trivial trivial) (T1 (okc (T1 (J (qo23 X n) (J (qo24 X n) (T1 (qo25 X n))))) trivial))))) (T1 (J Tryz.func10 rfl))
abbrev P10 : List SV := [V13, V0]
abbrev R10 : RV := .many [V14, V2]
theorem ok10 (n : Nat) : FO 10 P10 R10 (F.text_Decode n) := fnOK_of WOf.st (cx10_ok _ n) (d := 8) fun _ => by kernel_rfl
noncomputable def o10 (n : Nat) := oc 10 P10 R10 (F.text_Decode n)
noncomputable def cx9 (X : Type) (n : Nat) : Cx X := mkCx tab.get [(9, Tryz.f9)] [o10 n] [] [] [] [] [] [(22, .u8)]
theorem cx9_ok (X : Type) (n : Nat) : CxOK Tryz.prog SW (cx9 X n) := mx (T1 (J Tryz.func9 (by decide))) (T1 (orcOf_ok (ok10 n))) (T1 (okc trivial trivial)) trivial
abbrev P9 : List SV := []
abbrev R9 : RV := .one .bool
theorem ok9 (n : Nat) : FO 9 P9 R9 (F.law13_awake n) := fnOK_of WOf.st (cx9_ok _ n) (d := 8) fun _ => by kernel_rfl
noncomputable def o9 (n : Nat) := oc 9 P9 R9 (F.law13_awake n)
noncomputable def cx18 (X : Type) (n : Nat) : Cx X := mkCx tab.get [(18, Tryz.f18)] [] [] [] [] []
theorem cx18_ok (X : Type) (n : Nat) : CxOK Tryz.prog SW (cx18 X n) := mx (T1 (J Tryz.func18 (by decide))) trivial (T1 (okc trivial trivial)) trivial
abbrev P18 : List SV := [V0]
abbrev R18 : RV := .one .bool
theorem ok18 (n : Nat) : FO 18 P18 R18 (F.ref13_Is n) := fnOK_of WOf.st (cx18_ok _ n) (d := 8) fun _ => by kernel_rfl
noncomputable def o18 (n : Nat) := oc 18 P18 R18 (F.ref13_Is n)
noncomputable def cx232 (X : Type) (n : Nat) : Cx X := mkCx tab.get [(232, Tryz.f232)] [] [] [] [] []
theorem cx232_ok (X : Type) (n : Nat) : CxOK Tryz.prog SW (cx232 X n) := mx (T1 (J Tryz.func232 (by decide))) trivial (T1 (okc trivial trivial)) trivial
abbrev P232 : List SV := [V0]
abbrev R232 : RV := .one .str
theorem ok232 (n : Nat) : FO 232 P232 R232 (F.ref04_Bytes n) := fnOK_of WOf.st (cx232_ok _ n) (d := 8) fun _ => by kernel_rfl
noncomputable def o232 (n : Nat) := oc 232 P232 R232 (F.ref04_Bytes n)
def qh27 : Shape := ⟨[(1, V1), (5, .str), (6, V0)], [], [], [], [], 0, 0, 0⟩
def qe27_0 : Shape := ⟨[], [], [], [], [], 0, 0, 0⟩
def qe27_r : Shape := ⟨[(4, .bool)], [], [], [], [], 0, 0, 0⟩
noncomputable def ql27 (X : Type) (n : Nat) : LoopI X := mkLi 8 0 0 0 qh27 [(0, qe27_0)] [qe27_r] n fun m ks => F.ref04_Is.L3 n (fun _ => xe qe27_0 ks 0) (xr qe27_r ks) m
noncomputable def cx195 (X : Type) (n : Nat) : Cx X := mkCx tab.get [(195, Tryz.f195)] [o232 n] [(195, 3, [ql27 X n])] [] [] []
theorem qo27 (X : Type) (n : Nat) : LO (cx195 X n) 195 Tryz.f195 0 (ql27 X n) := lok
theorem cx195_ok (X : Type) (n : Nat) : CxOK Tryz.prog SW (cx195 X n) := mx (T1 (J Tryz.func195 (by decide))) (T1 (orcOf_ok (ok232 n))) (T1 (okc (T1 (T1 (qo27 X n))) trivial)) trivial
abbrev P195 : List SV := [V0, V1]
abbrev R195 : RV := .one .bool
theorem ok195 (n : Nat) : FO 195 P195 R195 (F.ref04_Is n) := fnOK_of WOf.st (cx195_ok _ n) (d := 8) fun _ => by kernel_rfl
noncomputable def o195 (n : Nat) := oc 195 P195 R195 (F.ref04_Is n)
def qh28 : Shape := ⟨[(0, V0), (1, .str), (5, V0)], [], [], [], [], 0, 0, 0⟩
def qe28_0 : Shape := ⟨[], [], [], [], [], 0, 0, 0⟩
def qe28_r : Shape := ⟨[(4, V0)], [], [], [], [], 0, 0, 0⟩
noncomputable def ql28 (X : Type) (n : Nat) : LoopI X := mkLi 8 0 0 0 qh28 [(0, qe28_0)] [qe28_r] n fun m ks => F.ref04_Bad.L2 n (fun _ => xe qe28_0 ks 0) (xr qe28_r ks) m
noncomputable def cx143 (X : Type) (n : Nat) : Cx X := mkCx tab.get [(143, Tryz.f143)] [o195 n] [(143, 2, [ql28 X n])] [] [] []
theorem qo28 (X : Type) (n : Nat) : LO (cx143 X n) 143 Tryz.f143 0 (ql28 X n) := lok
theorem cx143_ok (X : Type) (n : Nat) : CxOK Tryz.prog SW (cx143 X n) := mx (T1 (J Tryz.func143 (by decide))) (T1 (orcOf_ok (ok195 n))) (T1 (okc (T1 (T1 (qo28 X n))) trivial)) trivial
abbrev P143 : List SV := [V0, .str]
abbrev R143 : RV := .one V0
theorem ok143 (n : Nat) : FO 143 P143 R143 (F.ref04_Bad n) := fnOK_of WOf.st (cx143_ok _ n) (d := 8) fun _ => by kernel_rfl
noncomputable def o143 (n : Nat) := oc 143 P143 R143 (F.ref04_Bad n)
noncomputable def cx141 (X : Type) (n : Nat) : Cx X := mkCx tab.get [(141, Tryz.f141)] [o143 n] [] [] [] []
theorem cx141_ok (X : Type) (n : Nat) : CxOK Tryz.prog SW (cx141 X n) := mx (T1 (J Tryz.func141 (by decide))) (T1 (orcOf_ok (ok143 n))) (T1 (okc trivial trivial)) trivial
abbrev P141 : List SV := [V0, .str, V0, V0]
abbrev R141 : RV := .one V2
theorem ok141 (n : Nat) : FO 141 P141 R141 (F.ref04_Text n) := fnOK_of WOf.st (cx141_ok _ n) (d := 8) fun _ => by kernel_rfl
noncomputable def o141 (n : Nat) := oc 141 P141 R141 (F.ref04_Text n)
noncomputable def cx147 (X : Type) (n : Nat) : Cx X := mkCx tab.get [(147, Tryz.f147)] [] [] [] [] []
theorem cx147_ok (X : Type) (n : Nat) : CxOK Tryz.prog SW (cx147 X n) := mx (T1 (J Tryz.func147 (by decide))) trivial (T1 (okc trivial trivial)) trivial
abbrev P147 : List SV := [.str]
abbrev R147 : RV := .one .bool
theorem ok147 (n : Nat) : FO 147 P147 R147 (F.ref03_Fits n) := fnOK_of WOf.st (cx147_ok _ n) (d := 8) fun _ => by kernel_rfl
noncomputable def o147 (n : Nat) := oc 147 P147 R147 (F.ref03_Fits n)
def qh29 : Shape := ⟨[(0, .str), (3, V6), (4, V0)], [], [], [], [], 0, 0, 0⟩
def qe29_0 : Shape := ⟨[(3, V6)], [], [], [], [], 0, 0, 0⟩
noncomputable def ql29 (X : Type) (n : Nat) : LoopI X := mkLi 8 0 0 0 qh29 [(0, qe29_0)] [] n fun m ks => F.ref03_Value.L3 n (xe qe29_0 ks 0) m
noncomputable def cx148 (X : Type) (n : Nat) : Cx X := mkCx tab.get [(148, Tryz.f148)] [] [(148, 3, [ql29 X n])] [] [] []
theorem qo29 (X : Type) (n : Nat) : LO (cx148 X n) 148 Tryz.f148 0 (ql29 X n) := lok
theorem cx148_ok (X : Type) (n : Nat) : CxOK Tryz.prog SW (cx148 X n) := mx (T1 (J Tryz.func148 (by decide))) trivial (T1 (okc (T1 (T1 (qo29 X n))) trivial)) trivial
abbrev P148 : List SV := [.str]
abbrev R148 : RV := .one V6
theorem ok148 (n : Nat) : FO 148 P148 R148 (F.ref03_Value n) := fnOK_of WOf.st (cx148_ok _ n) (d := 8) fun _ => by kernel_rfl
noncomputable def o148 (n : Nat) := oc 148 P148 R148 (F.ref03_Value n)
def qh30 : Shape := ⟨[(0, .bool), (1, .str), (2, V0), (6, (.const (.ref 0 0)))], [[.bool, V6, V0]], [], [], [], 1, 0, 0⟩
def qe30_0 : Shape := ⟨[(0, .bool), (1, .str), (2, V0), (6, (.const (.ref 0 0)))], [[.bool, V6, V0]], [], [], [], 1, 0, 0⟩
noncomputable def ql30 (X : Type) (n : Nat) : LoopI X := mkLi 8 0 0 0 qh30 [(0, qe30_0)] [] n fun m ks => F.ref03_Make.L1 n (xe qe30_0 ks 0) m
def qh31 : Shape := ⟨[(0, .bool), (1, .str), (2, V0), (6, (.const (.ref 0 0)))], [[.bool, V6, V0]], [], [], [], 1, 0, 0⟩
def qe31_2 : Shape := ⟨[(0, .bool), (1, .str), (2, V0), (6, (.const (.ref 0 0)))], [[.bool, V6, V0]], [], [], [], 1, 0, 0⟩
noncomputable def ql31 (X : Type) (n : Nat) : LoopI X := mkLi 8 0 0 0 qh31 [(2, qe31_2)] [] n fun m ks => F.ref03_Make.L7 n (xe qe31_2 ks 2) m
def qh32 : Shape := ⟨[(0, .bool), (1, .str), (2, V0), (6, (.const (.ref 0 0)))], [[.bool, V6, V0]], [], [], [], 1, 0, 0⟩
def qe32_4 : Shape := ⟨[(0, .bool), (1, .str), (2, V0), (6, (.const (.ref 0 0)))], [[.bool, V6, V0]], [], [], [], 1, 0, 0⟩
noncomputable def ql32 (X : Type) (n : Nat) : LoopI X := mkLi 8 0 0 0 qh32 [(4, qe32_4)] [] n fun m ks => F.ref03_Make.L10 n (xe qe32_4 ks 4) m
noncomputable def cx81 (X : Type) (n : Nat) : Cx X := mkCx tab.get [(81, Tryz.f81)] [o147 n, o148 n] [(81, 1, [ql30 X n]), (81, 7, [ql31 X n]), (81, 10, [ql32 X n])] [] [] []
theorem qo30 (X : Type) (n : Nat) : LO (cx81 X n) 81 Tryz.f81 0 (ql30 X n) := lok
theorem qo31 (X : Type) (n : Nat) : LO (cx81 X n) 81 Tryz.f81 1 (ql31 X n) := lok
theorem qo32 (X : Type) (n : Nat) : LO (cx81 X n) 81 Tryz.f81 2 (ql32 X n) := lok
theorem cx81_ok (X : Type) (n : Nat) : CxOK Tryz.prog SW (cx81 X n) := mx (T1 (J Tryz.func81 (by decide))) (J (orcOf_ok (ok147 n)) (T1 (orcOf_ok (ok148 n)))) (T1 (okc (J (T1 (qo30 X n)) (J (T1 (qo31 X n)) (T1 (T1 (qo32 X n))))) trivial)) trivial
abbrev P81 : List SV := [.bool, .str, V0]
abbrev R81 : RV := .many [V7, .bool]
theorem ok81 (n : Nat) : FO 81 P81 R81 (F.ref03_Make n) := fnOK_of WOf.st (cx81_ok _ n) (d := 8) fun _ => by kernel_rfl
noncomputable def o81 (n : Nat) := oc 81 P81 R81 (F.ref03_Make n)
noncomputable def cx88 (X : Type) (n : Nat) : Cx X := mkCx tab.get [(88, Tryz.f88)] [] [] [] [] []
theorem cx88_ok (X : Type) (n : Nat) : CxOK Tryz.prog SW (cx88 X n) := mx (T1 (J Tryz.func88 (by decide))) trivial (T1 (okc trivial trivial)) trivial
abbrev P88 : List SV := [V0]
abbrev R88 : RV := .one .str
theorem ok88 (n : Nat) : FO 88 P88 R88 (F.ref10_Word n) := fnOK_of WOf.st (cx88_ok _ n) (d := 8) fun _ => by kernel_rfl
noncomputable def o88 (n : Nat) := oc 88 P88 R88 (F.ref10_Word n)
def qh40 : Shape := ⟨[(0, .str), (1, .str), (5, V0)], [], [], [], [], 0, 0, 0⟩
def qe40_0 : Shape := ⟨[(0, .str), (1, .str)], [], [], [], [], 0, 0, 0⟩
def qe40_r : Shape := ⟨[(4, .bool)], [], [], [], [], 0, 0, 0⟩
noncomputable def ql40 (X : Type) (n : Nat) : LoopI X := mkLi 8 0 0 0 qh40 [(0, qe40_0)] [qe40_r] n fun m ks => F.ref06_Ahead.L2 n (xe qe40_0 ks 0) (xr qe40_r ks) m
noncomputable def cx150 (X : Type) (n : Nat) : Cx X := mkCx tab.get [(150, Tryz.f150)] [] [(150, 2, [ql40 X n])] [] [] []
theorem qo40 (X : Type) (n : Nat) : LO (cx150 X n) 150 Tryz.f150 0 (ql40 X n) := lok
theorem cx150_ok (X : Type) (n : Nat) : CxOK Tryz.prog SW (cx150 X n) := mx (T1 (J Tryz.func150 (by decide))) trivial (T1 (okc (T1 (T1 (qo40 X n))) trivial)) trivial
abbrev P150 : List SV := [.str, .str]
abbrev R150 : RV := .one .bool
theorem ok150 (n : Nat) : FO 150 P150 R150 (F.ref06_Ahead n) := fnOK_of WOf.st (cx150_ok _ n) (d := 8) fun _ => by kernel_rfl
noncomputable def o150 (n : Nat) := oc 150 P150 R150 (F.ref06_Ahead n)
noncomputable def cx85 (X : Type) (n : Nat) : Cx X := mkCx tab.get [(85, Tryz.f85)] [o150 n] [] [] [] []
theorem cx85_ok (X : Type) (n : Nat) : CxOK Tryz.prog SW (cx85 X n) := mx (T1 (J Tryz.func85 (by decide))) (T1 (orcOf_ok (ok150 n))) (T1 (okc trivial trivial)) trivial
abbrev P85 : List SV := [V11, V11]
abbrev R85 : RV := .one .bool
theorem ok85 (n : Nat) : FO 85 P85 R85 (F.ref06_Less n) := fnOK_of WOf.st (cx85_ok _ n) (d := 8) fun _ => by kernel_rfl
noncomputable def o85 (n : Nat) := oc 85 P85 R85 (F.ref06_Less n)
def qh41 : Shape := ⟨[(0, V4), (3, (.sl Y3 (.own 0))), (4, V0), (5, (.sl Y3 (.own 1))), (6, .bool), (7, V0)], [], [true, true], [], [], 0, 0, 0⟩
def qe41_2 : Shape := ⟨[(0, V4), (4, V0), (5, (.sl Y3 (.own 0))), (6, .bool)], [], [true], [], [], 0, 0, 0⟩
noncomputable def ql41 (X : Type) (n : Nat) : LoopI X := mkLi 8 0 0 0 qh41 [(2, qe41_2)] [] n fun m ks => F.ref06_Normal.L8 n (xe qe41_2 ks 2) m
def qh42 : Shape := ⟨[(0, V4), (3, (.sl Y3 (.own 0))), (4, V0)], [], [true], [], [], 0, 0, 0⟩
def qe42_0 : Shape := ⟨[(3, (.sl Y3 (.own 0)))], [], [true], [], [], 0, 0, 0⟩
noncomputable def ql42 (X : Type) (n : Nat) : LoopI X := mkLi 8 0 0 0 qh42 [(0, qe42_0)] [] n fun m ks => F.ref06_Normal.L3 n (xe qe42_0 ks 0) m
noncomputable def cx42 (X : Type) (n : Nat) : Cx X := mkCx tab.get [(42, Tryz.f42)] [o85 n] [(42, 3, [ql42 X n]), (42, 8, [ql41 X n])] [] [] []
theorem qo41 (X : Type) (n : Nat) : LO (cx42 X n) 42 Tryz.f42 1 (ql41 X n) := lok
theorem qo42 (X : Type) (n : Nat) : LO (cx42 X n) 42 Tryz.f42 0 (ql42 X n) := lok
theorem cx42_ok (X : Type) (n : Nat) : CxOK Tryz.prog SW (cx42 X n) := mx (T1 (J Tryz.func42 (by decide))) (T1 (orcOf_ok (ok85 n))) (T1 (okc (J (T1 (qo42 X n)) (T1 (T1 (qo41 X n)))) trivial)) trivial
abbrev P42 : List SV := [V4]
abbrev R42 : RV := .one V4
theorem ok42 (n : Nat) : FO 42 P42 R42 (F.ref06_Normal n) := fnOK_of WOf.st (cx42_ok _ n) (d := 8) fun _ => by kernel_rfl
noncomputable def o42 (n : Nat) := oc 42 P42 R42 (F.ref06_Normal n)
noncomputable def cx90 (X : Type) (n : Nat) : Cx X := mkCx tab.get [(90, Tryz.f90)] [] [] [] [] []
theorem cx90_ok (X : Type) (n : Nat) : CxOK Tryz.prog SW (cx90 X n) := mx (T1 (J Tryz.func90 (by decide))) trivial (T1 (okc trivial trivial)) trivial
abbrev P90 : List SV := []
abbrev R90 : RV := .one V9
theorem ok90 (n : Nat) : FO 90 P90 R90 (F.ref11_Words n) := fnOK_of WOf.st (cx90_ok _ n) (d := 8) fun _ => by kernel_rfl
noncomputable def o90 (n : Nat) := oc 90 P90 R90 (F.ref11_Words n)
def qh45 : Shape := ⟨[(0, .str), (3, V0)], [], [], [], [], 0, 0, 0⟩
def qe45_0 : Shape := ⟨[(0, .str)], [], [], [], [], 0, 0, 0⟩
def qe45_r : Shape := ⟨[(2, .bool)], [], [], [], [], 0, 0, 0⟩
noncomputable def ql45 (X : Type) (n : Nat) : LoopI X := mkLi 8 0 0 0 qh45 [(0, qe45_0)] [qe45_r] n fun m ks => F.ref07_Name.L2 n (xe qe45_0 ks 0) (xr qe45_r ks) m
noncomputable def cx83 (X : Type) (n : Nat) : Cx X := mkCx tab.get [(83, Tryz.f83)] [] [(83, 2, [ql45 X n])] [] [] []
theorem qo45 (X : Type) (n : Nat) : LO (cx83 X n) 83 Tryz.f83 0 (ql45 X n) := lok
theorem cx83_ok (X : Type) (n : Nat) : CxOK Tryz.prog SW (cx83 X n) := mx (T1 (J Tryz.func83 (by decide))) trivial (T1 (okc (T1 (T1 (qo45 X n))) trivial)) trivial
abbrev P83 : List SV := [.str]
abbrev R83 : RV := .one .bool
theorem ok83 (n : Nat) : FO 83 P83 R83 (F.ref07_Name n) := fnOK_of WOf.st (cx83_ok _ n) (d := 8) fun _ => by kernel_rfl
noncomputable def o83 (n : Nat) := oc 83 P83 R83 (F.ref07_Name n)
noncomputable def cx149 (X : Type) (n : Nat) : Cx X := mkCx tab.get [(149, Tryz.f149)] [o141 n] [] [] [] []
theorem cx149_ok (X : Type) (n : Nat) : CxOK Tryz.prog SW (cx149 X n) := mx (T1 (J Tryz.func149 (by decide))) (T1 (orcOf_ok (ok141 n))) (T1 (okc trivial trivial)) trivial
abbrev P149 : List SV := [V11]
abbrev R149 : RV := .one .bool
theorem ok149 (n : Nat) : FO 149 P149 R149 (F.ref06_Right n) := fnOK_of WOf.st (cx149_ok _ n) (d := 8) fun _ => by kernel_rfl
noncomputable def o149 (n : Nat) := oc 149 P149 R149 (F.ref06_Right n)
noncomputable def cx152 (X : Type) (n : Nat) : Cx X := mkCx tab.get [(152, Tryz.f152)] [] [] [] [] []
theorem cx152_ok (X : Type) (n : Nat) : CxOK Tryz.prog SW (cx152 X n) := mx (T1 (J Tryz.func152 (by decide))) trivial (T1 (okc trivial trivial)) trivial
abbrev P152 : List SV := [V11]
abbrev R152 : RV := .one .str
theorem ok152 (n : Nat) : FO 152 P152 R152 (F.ref06_One n) := fnOK_of WOf.st (cx152_ok _ n) (d := 8) fun _ => by kernel_rfl
noncomputable def o152 (n : Nat) := oc 152 P152 R152 (F.ref06_One n)
def qh57 : Shape := ⟨[(1, (.const (.ref 0 0))), (3, V0)], [[.str, V0, V3, V0, V4, V0]], [], [], [], 1, 0, 0⟩
def qe57_0 : Shape := ⟨[(1, (.const (.ref 0 0)))], [[.str, V0, V3, V0, V4, V0]], [], [], [], 1, 0, 0⟩
def qe57_r : Shape := ⟨[(2, .bool)], [[.str, V0, V3, V0, V4, V0]], [], [], [], 1, 0, 0⟩
noncomputable def ql57 (X : Type) (n : Nat) : LoopI X := mkLi 8 0 0 0 qh57 [(0, qe57_0)] [qe57_r] n fun m ks => F.law10_Small.L2 n (xe qe57_0 ks 0) (xr qe57_r ks) m
noncomputable def cx13 (X : Type) (n : Nat) : Cx X := mkCx tab.get [(13, Tryz.f13)] [] [(13, 2, [ql57 X n])] [] [] []
theorem qo57 (X : Type) (n : Nat) : LO (cx13 X n) 13 Tryz.f13 0 (ql57 X n) := lok
theorem cx13_ok (X : Type) (n : Nat) : CxOK Tryz.prog SW (cx13 X n) := mx (T1 (J Tryz.func13 (by decide))) trivial (T1 (okc (T1 (T1 (qo57 X n))) trivial)) trivial
abbrev P13 : List SV := [V5]
abbrev R13 : RV := .one .bool
theorem ok13 (n : Nat) : FO 13 P13 R13 (F.law10_Small n) := fnOK_of WOf.st (cx13_ok _ n) (d := 8) fun _ => by kernel_rfl
noncomputable def o13 (n : Nat) := oc 13 P13 R13 (F.law10_Small n)
noncomputable def cx97 (X : Type) (n : Nat) : Cx X := mkCx tab.get [(97, Tryz.f97)] [o114 n] [] [] [] []
theorem cx97_ok (X : Type) (n : Nat) : CxOK Tryz.prog SW (cx97 X n) := mx (T1 (J Tryz.func97 (by decide))) (T1 (orcOf_ok (ok114 n))) (T1 (okc trivial trivial)) trivial
abbrev P97 : List SV := [V5]
abbrev R97 : RV := .one .bool
theorem ok97 (n : Nat) : FO 97 P97 R97 (F.metric_look_name n) := fnOK_of WOf.st (cx97_ok _ n) (d := 8) fun _ => by kernel_rfl
noncomputable def o97 (n : Nat) := oc 97 P97 R97 (F.metric_look_name n)
noncomputable def cx156 (X : Type) (n : Nat) : Cx X := mkCx tab.get [(156, Tryz.f156)] [] [] [] [] []
theorem cx156_ok (X : Type) (n : Nat) : CxOK Tryz.prog SW (cx156 X n) := mx (T1 (J Tryz.func156 (by decide))) trivial (T1 (okc trivial trivial)) trivial
abbrev P156 : List SV := [V0, V0, V0]
abbrev R156 : RV := .one .bool
theorem ok156 (n : Nat) : FO 156 P156 R156 (F.metric_between n) := fnOK_of WOf.st (cx156_ok _ n) (d := 8) fun _ => by kernel_rfl
noncomputable def o156 (n : Nat) := oc 156 P156 R156 (F.metric_between n)
noncomputable def cx98 (X : Type) (n : Nat) : Cx X := mkCx tab.get [(98, Tryz.f98)] [o156 n] [] [] [] []
theorem cx98_ok (X : Type) (n : Nat) : CxOK Tryz.prog SW (cx98 X n) := mx (T1 (J Tryz.func98 (by decide))) (T1 (orcOf_ok (ok156 n))) (T1 (okc trivial trivial)) trivial
abbrev P98 : List SV := [V5]
abbrev R98 : RV := .one .bool
theorem ok98 (n : Nat) : FO 98 P98 R98 (F.metric_look_kind n) := fnOK_of WOf.st (cx98_ok _ n) (d := 8) fun _ => by kernel_rfl
noncomputable def o98 (n : Nat) := oc 98 P98 R98 (F.metric_look_kind n)
noncomputable def cx159 (X : Type) (n : Nat) : Cx X := mkCx tab.get [(159, Tryz.f159)] [o67 n] [] [] [] []
theorem cx159_ok (X : Type) (n : Nat) : CxOK Tryz.prog SW (cx159 X n) := mx (T1 (J Tryz.func159 (by decide))) (T1 (orcOf_ok (ok67 n))) (T1 (okc trivial trivial)) trivial
abbrev P159 : List SV := [V7]
abbrev R159 : RV := .one V0
theorem ok159 (n : Nat) : FO 159 P159 R159 (F.dec_Check n) := fnOK_of WOf.st (cx159_ok _ n) (d := 8) fun _ => by kernel_rfl
noncomputable def o159 (n : Nat) := oc 159 P159 R159 (F.dec_Check n)
noncomputable def cx158 (X : Type) (n : Nat) : Cx X := mkCx tab.get [(158, Tryz.f158)] [o159 n] [] [] [] []
theorem cx158_ok (X : Type) (n : Nat) : CxOK Tryz.prog SW (cx158 X n) := mx (T1 (J Tryz.func158 (by decide))) (T1 (orcOf_ok (ok159 n))) (T1 (okc trivial trivial)) trivial
abbrev P158 : List SV := [V7]
abbrev R158 : RV := .one .bool
theorem ok158 (n : Nat) : FO 158 P158 R158 (F.metric_look_values_1 n) := fnOK_of WOf.st (cx158_ok _ n) (d := 8) fun _ => by kernel_rfl
noncomputable def o158 (n : Nat) := oc 158 P158 R158 (F.metric_look_values_1 n)
def qh58 : Shape := ⟨[(0, V3), (1, (.const (.fn 158 [] []))), (7, V0), (8, V0)], [[.str, V0, V3, V0, V4, V0]], [], [], [], 1, 0, 0⟩
def qe58_0 : Shape := ⟨[], [[.str, V0, V3, V0, V4, V0]], [], [], [], 1, 0, 0⟩
def qe58_r : Shape := ⟨[(4, V0)], [[.str, V0, V3, V0, V4, V0]], [], [], [], 1, 0, 0⟩
noncomputable def ql58 (X : Type) (n : Nat) : LoopI X := mkLi 6 1 0 0 qh58 [(0, qe58_0)] [qe58_r] n fun m ks => F.metric_look_values.L2_slices_IndexFunc_api_Dec_api_Dec n (xe qe58_0 ks 0) (xr qe58_r ks) m
noncomputable def cx99 (X : Type) (n : Nat) : Cx X := mkCx tab.get [(99, Tryz.f99), (157, Tryz.f157), (196, Tryz.f196)] [o156 n, o158 n] [(196, 2, [ql58 X n])] [] [] []
theorem qo58 (X : Type) (n : Nat) : LO (cx99 X n) 196 Tryz.f196 0 (ql58 X n) := lok
theorem cx99_ok (X : Type) (n : Nat) : CxOK Tryz.prog SW (cx99 X n) := mx (J (J Tryz.func99 (by decide)) (J (J Tryz.func157 (by decide)) (T1 (J Tryz.func196 (by decide))))) (J (orcOf_ok (ok156 n)) (T1 (orcOf_ok (ok158 n)))) (J (okc trivial trivial) (J (okc trivial trivial) (T1 (okc (T1 (T1 (qo58 X n))) trivial)))) trivial
abbrev P99 : List SV := [V5]
abbrev R99 : RV := .one .bool
theorem ok99 (n : Nat) : FO 99 P99 R99 (F.metric_look_values n) := fnOK_of WOf.st (cx99_ok _ n) (d := 8) fun _ => by kernel_rfl
noncomputable def o99 (n : Nat) := oc 99 P99 R99 (F.metric_look_values n)
noncomputable def cx100 (X : Type) (n : Nat) : Cx X := mkCx tab.get [(100, Tryz.f100)] [o156 n] [] [] [] []
theorem cx100_ok (X : Type) (n : Nat) : CxOK Tryz.prog SW (cx100 X n) := mx (T1 (J Tryz.func100 (by decide))) (T1 (orcOf_ok (ok156 n))) (T1 (okc trivial trivial)) trivial
abbrev P100 : List SV := [V5]
abbrev R100 : RV := .one .bool
theorem ok100 (n : Nat) : FO 100 P100 R100 (F.metric_look_rate n) := fnOK_of WOf.st (cx100_ok _ n) (d := 8) fun _ => by kernel_rfl
noncomputable def o100 (n : Nat) := oc 100 P100 R100 (F.metric_look_rate n)
noncomputable def cx161 (X : Type) (n : Nat) : Cx X := mkCx tab.get [(161, Tryz.f161)] [o162 n] [] [] [] []
theorem cx161_ok (X : Type) (n : Nat) : CxOK Tryz.prog SW (cx161 X n) := mx (T1 (J Tryz.func161 (by decide))) (T1 (orcOf_ok (ok162 n))) (T1 (okc trivial trivial)) trivial
abbrev P161 : List SV := [V11]
abbrev R161 : RV := .one .bool
theorem ok161 (n : Nat) : FO 161 P161 R161 (F.metric_look_tags_1 n) := fnOK_of WOf.st (cx161_ok _ n) (d := 8) fun _ => by kernel_rfl
noncomputable def o161 (n : Nat) := oc 161 P161 R161 (F.metric_look_tags_1 n)
def qh59 : Shape := ⟨[(0, V4), (1, (.const (.fn 161 [] []))), (7, V0), (8, V0)], [[.str, V0, V3, V0, V4, V0]], [], [], [], 1, 0, 0⟩
def qe59_0 : Shape := ⟨[], [[.str, V0, V3, V0, V4, V0]], [], [], [], 1, 0, 0⟩
def qe59_r : Shape := ⟨[(4, V0)], [[.str, V0, V3, V0, V4, V0]], [], [], [], 1, 0, 0⟩
noncomputable def ql59 (X : Type) (n : Nat) : LoopI X := mkLi 6 1 0 0 qh59 [(0, qe59_0)] [qe59_r] n fun m ks => F.metric_look_tags.L2_slices_IndexFunc_api_Tag_api_Tag n (xe qe59_0 ks 0) (xr qe59_r ks) m
noncomputable def cx101 (X : Type) (n : Nat) : Cx X := mkCx tab.get [(101, Tryz.f101), (160, Tryz.f160), (197, Tryz.f197)] [o161 n] [(197, 2, [ql59 X n])] [] [] []
theorem qo59 (X : Type) (n : Nat) : LO (cx101 X n) 197 Tryz.f197 0 (ql59 X n) := lok
theorem cx101_ok (X : Type) (n : Nat) : CxOK Tryz.prog SW (cx101 X n) := mx (J (J Tryz.func101 (by decide)) (J (J Tryz.func160 (by decide)) (T1 (J Tryz.func197 (by decide))))) (T1 (orcOf_ok (ok161 n))) (J (okc trivial trivial) (J (okc trivial trivial) (T1 (okc (T1 (T1 (qo59 X n))) trivial)))) trivial
abbrev P101 : List SV := [V5]
abbrev R101 : RV := .one .bool
theorem ok101 (n : Nat) : FO 101 P101 R101 (F.metric_look_tags n) := fnOK_of WOf.st (cx101_ok _ n) (d := 8) fun _ => by kernel_rfl
noncomputable def o101 (n : Nat) := oc 101 P101 R101 (F.metric_look_tags n)
noncomputable def cx102 (X : Type) (n : Nat) : Cx X := mkCx tab.get [(102, Tryz.f102)] [o156 n] [] [] [] []
theorem cx102_ok (X : Type) (n : Nat) : CxOK Tryz.prog SW (cx102 X n) := mx (T1 (J Tryz.func102 (by decide))) (T1 (orcOf_ok (ok156 n))) (T1 (okc trivial trivial)) trivial
abbrev P102 : List SV := [V5]
abbrev R102 : RV := .one .bool
theorem ok102 (n : Nat) : FO 102 P102 R102 (F.metric_look_time n) := fnOK_of WOf.st (cx102_ok _ n) (d := 8) fun _ => by kernel_rfl
noncomputable def o102 (n : Nat) := oc 102 P102 R102 (F.metric_look_time n)
def qh60 : Shape := ⟨[(26, V16), (27, V0)], [[.str, V0, V3, V0, V4, V0], [.str, V0, V3, V0, V4, V0]], [], [], [], 2, 0, 0⟩
def qe60_0 : Shape := ⟨[], [[.str, V0, V3, V0, V4, V0], [.str, V0, V3, V0, V4, V0]], [], [], [], 2, 0, 0⟩
def qe60_r : Shape := ⟨[(2, V0)], [[.str, V0, V3, V0, V4, V0], [.str, V0, V3, V0, V4, V0]], [], [], [], 2, 0, 0⟩
noncomputable def ql60 (X : Type) (n : Nat) : LoopI X := mkLi 8 0 0 0 qh60 [(0, qe60_0)] [qe60_r] n fun m ks => F.metric_Check.L3 n (xe qe60_0 ks 0) (xr qe60_r ks) m
noncomputable def cx53 (X : Type) (n : Nat) : Cx X := mkCx tab.get [(53, Tryz.f53)] [o97 n, o98 n, o99 n, o100 n, o101 n, o102 n] [(53, 3, [ql60 X n])] [] [] []
theorem qo60 (X : Type) (n : Nat) : LO (cx53 X n) 53 Tryz.f53 0 (ql60 X n) := lok
theorem cx53_ok (X : Type) (n : Nat) : CxOK Tryz.prog SW (cx53 X n) := mx (T1 (J Tryz.func53 (by decide))) (J (orcOf_ok (ok97 n)) (J (orcOf_ok (ok98 n)) (J (orcOf_ok (ok99 n)) (J (orcOf_ok (ok100 n)) (J (orcOf_ok (ok101 n)) (T1 (orcOf_ok (ok102 n)))))))) (T1 (okc (T1 (T1 (qo60 X n))) trivial)) trivial
abbrev P53 : List SV := [V5]
abbrev R53 : RV := .one V0
theorem ok53 (n : Nat) : FO 53 P53 R53 (F.metric_Check n) := fnOK_of WOf.st (cx53_ok _ n) (d := 8) fun _ => by kernel_rfl
noncomputable def o53 (n : Nat) := oc 53 P53 R53 (F.metric_Check n)
def qh61 : Shape := ⟨[(1, (.const (.ref 0 0))), (2, (.const (.ref 1 0))), (4, (.ms 3 Y2)), (13, (.ms 3 Y2)), (14, V0), (15, V0)], [[.str, V0, V3, V0, V4, V0], [.str, V0, (.sl Y2 (.own 0)), V0, (.sl Y3 (.own 1)), V0], [(.row Y2)], [(.row Y2)]], [true, true], [], [], 4, 0, 0⟩
def qe61_0 : Shape := ⟨[(1, (.const (.ref 0 0))), (2, (.const (.ref 1 0))), (4, (.ms 3 Y2))], [[.str, V0, V3, V0, V4, V0], [.str, V0, (.sl Y2 (.own 0)), V0, (.sl Y3 (.own 1)), V0], [(.row Y2)], [(.row Y2)]], [true, true], [], [], 4, 0, 0⟩
noncomputable def ql61 (X : Type) (n : Nat) : LoopI X := mkLi 8 0 0 0 qh61 [(0, qe61_0)] [] n fun m ks => F.metric_Normal.L3 n (xe qe61_0 ks 0) m
noncomputable def cx35 (X : Type) (n : Nat) : Cx X := mkCx tab.get [(35, Tryz.f35), (66, Tryz.f66)] [o53 n, o67 n, o68 n] [(35, 3, [ql61 X n])] [] [] [] [] [(33, Y2)] [] none [66]
theorem qo61 (X : Type) (n : Nat) : LO (cx35 X n) 35 Tryz.f35 0 (ql61 X n) := lok
theorem cx35_ok (X : Type) (n : Nat) : CxOK Tryz.prog SW (cx35 X n) := mx (J (J Tryz.func35 (by decide)) (T1 (J Tryz.func66 (by decide)))) (J (orcOf_ok (ok53 n)) (J (orcOf_ok (ok67 n)) (T1 (orcOf_ok (ok68 n))))) (J (okc (T1 (T1 (qo61 X n))) trivial) (T1 (okc trivial trivial))) trivial
abbrev P35 : List SV := [V5]
abbrev R35 : RV := .many [V5, V0]
theorem ok35 (n : Nat) : FO 35 P35 R35 (F.metric_Normal n) := fnOK_of WOf.st (cx35_ok _ n) (d := 8) fun _ => by kernel_rfl
noncomputable def o35 (n : Nat) := oc 35 P35 R35 (F.metric_Normal n)
noncomputable def cx163 (X : Type) (n : Nat) : Cx X := mkCx tab.get [(163, Tryz.f163)] [] [] [] [] []
theorem cx163_ok (X : Type) (n : Nat) : CxOK Tryz.prog SW (cx163 X n) := mx (T1 (J Tryz.func163 (by decide))) trivial (T1 (okc trivial trivial)) trivial
abbrev P163 : List SV := [V5]
abbrev R163 : RV := .one .bool
theorem ok163 (n : Nat) : FO 163 P163 R163 (F.expr_said_bare n) := fnOK_of WOf.st (cx163_ok _ n) (d := 8) fun _ => by kernel_rfl
noncomputable def o163 (n : Nat) := oc 163 P163 R163 (F.expr_said_bare n)
noncomputable def cx104 (X : Type) (n : Nat) : Cx X := mkCx tab.get [(104, Tryz.f104)] [o163 n] [] [] [] []
theorem cx104_ok (X : Type) (n : Nat) : CxOK Tryz.prog SW (cx104 X n) := mx (T1 (J Tryz.func104 (by decide))) (T1 (orcOf_ok (ok163 n))) (T1 (okc trivial trivial)) trivial
abbrev P104 : List SV := [V5]
abbrev R104 : RV := .one .bool
theorem ok104 (n : Nat) : FO 104 P104 R104 (F.expr_said_statsd n) := fnOK_of WOf.st (cx104_ok _ n) (d := 8) fun _ => by kernel_rfl
noncomputable def o104 (n : Nat) := oc 104 P104 R104 (F.expr_said_statsd n)
noncomputable def cx105 (X : Type) (n : Nat) : Cx X := mkCx tab.get [(105, Tryz.f105)] [] [] [] [] []
theorem cx105_ok (X : Type) (n : Nat) : CxOK Tryz.prog SW (cx105 X n) := mx (T1 (J Tryz.func105 (by decide))) trivial (T1 (okc trivial trivial)) trivial
abbrev P105 : List SV := [V5]
abbrev R105 : RV := .one .bool
theorem ok105 (n : Nat) : FO 105 P105 R105 (F.expr_said_any n) := fnOK_of WOf.st (cx105_ok _ n) (d := 8) fun _ => by kernel_rfl
noncomputable def o105 (n : Nat) := oc 105 P105 R105 (F.expr_said_any n)
noncomputable def cx106 (X : Type) (n : Nat) : Cx X := mkCx tab.get [(106, Tryz.f106)] [o163 n] [] [] [] []
theorem cx106_ok (X : Type) (n : Nat) : CxOK Tryz.prog SW (cx106 X n) := mx (T1 (J Tryz.func106 (by decide))) (T1 (orcOf_ok (ok163 n))) (T1 (okc trivial trivial)) trivial
abbrev P106 : List SV := [V5]
abbrev R106 : RV := .one .bool
theorem ok106 (n : Nat) : FO 106 P106 R106 (F.expr_said_graphite n) := fnOK_of WOf.st (cx106_ok _ n) (d := 8) fun _ => by kernel_rfl
noncomputable def o106 (n : Nat) := oc 106 P106 R106 (F.expr_said_graphite n)
noncomputable def cx36 (X : Type) (n : Nat) : Cx X := mkCx tab.get [(36, Tryz.f36)] [o53 n, o104 n, o105 n, o106 n] [] [] [] [] [] [] [(55, .fmts [(1, 104), (2, 105), (3, 106), (4, 105)])] none []
theorem cx36_ok (X : Type) (n : Nat) : CxOK Tryz.prog SW (cx36 X n) := mx (T1 (J Tryz.func36 (by decide))) (J (orcOf_ok (ok53 n)) (J (orcOf_ok (ok104 n)) (J (orcOf_ok (ok105 n)) (T1 (orcOf_ok (ok106 n)))))) (T1 (okc trivial trivial)) trivial (T1 (fmts_ok.mono (fun _ _ => trivial)))
abbrev P36 : List SV := [V5, V0]
abbrev R36 : RV := .one V0
theorem ok36 (n : Nat) : FO 36 P36 R36 (F.expr_Metric n) := fnOK_of WOf.st (cx36_ok _ n) (d := 8) fun _ => by kernel_rfl
noncomputable def o36 (n : Nat) := oc 36 P36 R36 (F.expr_Metric n)
abbrev P166 : List SV := [V6, V0]
abbrev R166 : RV := .one .str
theorem ok166 (n : Nat) : FO 166 P166 R166 (O.futoa n) := futoa_ok (enters Tryz.func166 (by kernel_rfl) (by decide)) (fun k hk w hw => (Tryz.strconv_FormatUint_10 k hk w (swTab hw)).mono fun e w' ⟨a, q, os, b⟩ => ⟨a, b ▸ below_grow q os⟩) n
noncomputable def o166 (n : Nat) := oc 166 P166 R166 (O.futoa n)
abbrev P167 : List SV := [.str, V0]
abbrev R167 : RV := .one .str
theorem ok167 (n : Nat) : FO 167 P167 R167 (O.repeat' n) := repeat_ok (enters Tryz.func167 (by kernel_rfl) (by decide)) Tryz.strings_Repeat n
noncomputable def o167 (n : Nat) := oc 167 P167 R167 (O.repeat' n)
noncomputable def cx110 (X : Type) (n : Nat) : Cx X := mkCx tab.get [(110, Tryz.f110)] [o159 n, o166 n, o167 n] [] [] [] []
theorem cx110_ok (X : Type) (n : Nat) : CxOK Tryz.prog SW (cx110 X n) := mx (T1 (J Tryz.func110 (by decide))) (J (orcOf_ok (ok159 n)) (J (orcOf_ok (ok166 n)) (T1 (orcOf_ok (ok167 n))))) (T1 (okc trivial trivial)) trivial
abbrev P110 : List SV := [V7]
abbrev R110 : RV := .many [.str, V0]
theorem ok110 (n : Nat) : FO 110 P110 R110 (F.dec_Text n) := fnOK_of WOf.st (cx110_ok _ n) (d := 8) fun _ => by kernel_rfl
noncomputable def o110 (n : Nat) := oc 110 P110 R110 (F.dec_Text n)
abbrev P168 : List SV := [V0]
abbrev R168 : RV := .one .str
theorem ok168 (n : Nat) : FO 168 P168 R168 (O.itoa n) := itoa_ok (enters Tryz.func168 (by kernel_rfl) (by decide)) (fun k h0 h1 w hw => (Tryz.strconv_Itoa k h0 h1 w (swTab hw)).mono fun e w' ⟨a, q, os, b⟩ => ⟨a, b ▸ below_grow q os⟩) n
noncomputable def o168 (n : Nat) := oc 168 P168 R168 (O.itoa n)
noncomputable def cx111 (X : Type) (n : Nat) : Cx X := mkCx tab.get [(111, Tryz.f111)] [o168 n, o169 n] [] [] [] []
theorem cx111_ok (X : Type) (n : Nat) : CxOK Tryz.prog SW (cx111 X n) := mx (T1 (J Tryz.func111 (by decide))) (J (orcOf_ok (ok168 n)) (T1 (orcOf_ok (ok169 n)))) (T1 (okc trivial trivial)) trivial
abbrev P111 : List SV := [V0]
abbrev R111 : RV := .many [.str, V0]
theorem ok111 (n : Nat) : FO 111 P111 R111 (F.num_RateText n) := fnOK_of WOf.st (cx111_ok _ n) (d := 8) fun _ => by kernel_rfl
noncomputable def o111 (n : Nat) := oc 111 P111 R111 (F.num_RateText n)
noncomputable def cx57 (X : Type) (n : Nat) : Cx X := mkCx tab.get [(57, Tryz.f57)] [o36 n, o109 n, o110 n, o111 n] [] [] [] []
theorem cx57_ok (X : Type) (n : Nat) : CxOK Tryz.prog SW (cx57 X n) := mx (T1 (J Tryz.func57 (by decide))) (J (orcOf_ok (ok36 n)) (J (orcOf_ok (ok109 n)) (J (orcOf_ok (ok110 n)) (T1 (orcOf_ok (ok111 n)))))) (T1 (okc trivial trivial)) trivial
abbrev P57 : List SV := [V5]
abbrev R57 : RV := .many [.str, V0]
theorem ok57 (n : Nat) : FO 57 P57 R57 (F.statsd_Line n) := fnOK_of WOf.st (cx57_ok _ n) (d := 8) fun _ => by kernel_rfl
noncomputable def o57 (n : Nat) := oc 57 P57 R57 (F.statsd_Line n)
noncomputable def cx122 (X : Type) (n : Nat) : Cx X := mkCx tab.get [(122, Tryz.f122)] [o179 n] [] [] [] []
theorem cx122_ok (X : Type) (n : Nat) : CxOK Tryz.prog SW (cx122 X n) := mx (T1 (J Tryz.func122 (by decide))) (T1 (orcOf_ok (ok179 n))) (T1 (okc trivial trivial)) trivial
abbrev P122 : List SV := [V0]
abbrev R122 : RV := .many [.str, V0]
theorem ok122 (n : Nat) : FO 122 P122 R122 (F.dog_Word n) := fnOK_of WOf.st (cx122_ok _ n) (d := 8) fun _ => by kernel_rfl
noncomputable def o122 (n : Nat) := oc 122 P122 R122 (F.dog_Word n)
abbrev P180 : List SV := [V9, .str]
abbrev R180 : RV := .one .str
theorem ok180 (n : Nat) : FO 180 P180 R180 (O.join n) := join_ok (enters Tryz.func180 (by kernel_rfl) (by decide)) Tryz.strings_Join_none Tryz.strings_Join n
noncomputable def o180 (n : Nat) := oc 180 P180 R180 (O.join n)
def qh62 : Shape := ⟨[(5, (.sl .str (.own 0))), (10, V4), (11, V0), (12, V0)], [], [true], [], [], 0, 0, 0⟩
def qe62_0 : Shape := ⟨[(5, (.sl .str (.own 0)))], [], [true], [], [], 0, 0, 0⟩
def qe62_r : Shape := ⟨[(2, .str), (3, V0), (4, V0)], [], [], [], [], 0, 0, 0⟩
noncomputable def ql62 (X : Type) (n : Nat) : LoopI X := mkLi 8 0 0 0 qh62 [(0, qe62_0)] [qe62_r] n fun m ks => F.tag_Text.L3 n (xe qe62_0 ks 0) (xr qe62_r ks) m
noncomputable def cx123 (X : Type) (n : Nat) : Cx X := mkCx tab.get [(123, Tryz.f123)] [o162 n, o180 n] [(123, 3, [ql62 X n])] [] [] []
theorem qo62 (X : Type) (n : Nat) : LO (cx123 X n) 123 Tryz.f123 0 (ql62 X n) := lok
theorem cx123_ok (X : Type) (n : Nat) : CxOK Tryz.prog SW (cx123 X n) := mx (T1 (J Tryz.func123 (by decide))) (J (orcOf_ok (ok162 n)) (T1 (orcOf_ok (ok180 n)))) (T1 (okc (T1 (T1 (qo62 X n))) trivial)) trivial
abbrev P123 : List SV := [V4]
abbrev R123 : RV := .many [.str, V0, V0]
theorem ok123 (n : Nat) : FO 123 P123 R123 (F.tag_Text n) := fnOK_of WOf.st (cx123_ok _ n) (d := 8) fun _ => by kernel_rfl
noncomputable def o123 (n : Nat) := oc 123 P123 R123 (F.tag_Text n)
noncomputable def cx124 (X : Type) (n : Nat) : Cx X := mkCx tab.get [(124, Tryz.f124)] [o168 n] [] [] [] []
theorem cx124_ok (X : Type) (n : Nat) : CxOK Tryz.prog SW (cx124 X n) := mx (T1 (J Tryz.func124 (by decide))) (T1 (orcOf_ok (ok168 n))) (T1 (okc trivial trivial)) trivial
abbrev P124 : List SV := [V0]
abbrev R124 : RV := .many [.str, V0]
theorem ok124 (n : Nat) : FO 124 P124 R124 (F.num_Text n) := fnOK_of WOf.st (cx124_ok _ n) (d := 8) fun _ => by kernel_rfl
noncomputable def o124 (n : Nat) := oc 124 P124 R124 (F.num_Text n)
def qh63 : Shape := ⟨[(1, (.const (.ref 0 0))), (5, (.const (.ref 2 0))), (6, (.const (.ref 3 0))), (7, (.const (.fn 120 [] [(.ref 3 0), (.ref 2 0)]))), (34, V3), (35, V0), (36, V0)], [[.str, V0, V3, V0, V4, V0], [(.row (.u8t 5))], [(.const (.bcell 2 148)), (.ms 1 (.u8t 5))], [V0]], [], [], [], 4, 0, 0⟩
def qe63_0 : Shape := ⟨[(1, (.const (.ref 0 0))), (5, (.const (.ref 2 0))), (6, (.const (.ref 3 0))), (7, (.const (.fn 120 [] [(.ref 3 0), (.ref 2 0)])))], [[.str, V0, V3, V0, V4, V0], [(.row (.u8t 5))], [(.const (.bcell 2 148)), (.ms 1 (.u8t 5))], [V0]], [], [], [], 4, 0, 0⟩
noncomputable def ql63 (X : Type) (n : Nat) : LoopI X := mkLi 8 0 0 0 qh63 [(0, qe63_0)] [] n fun m ks => F.dog_Line.L9 n (xe qe63_0 ks 0) m
def qh64 : Shape := ⟨[(5, (.const (.ref 2 0))), (6, (.const (.ref 3 0)))], [[.str, V0, V3, V0, V4, V0], [(.row (.u8t 5))], [(.const (.bcell 2 148)), (.ms 1 (.u8t 5))], [V0]], [], [], [], 4, 0, 0⟩
def qe64_r : Shape := ⟨[(2, .str), (3, V0)], [], [], [], [], 0, 0, 0⟩
noncomputable def ql64 (X : Type) (n : Nat) : CutI X := mkCi 8 0 0 0 qh64 [] [] [qe64_r] fun ks => F.dog_Line.C25 n (xr qe64_r ks)
def qh65 : Shape := ⟨[(1, (.const (.ref 0 0))), (5, (.const (.ref 2 0))), (6, (.const (.ref 3 0))), (7, (.const (.fn 120 [] [(.ref 3 0), (.ref 2 0)])))], [[.str, V0, V3, V0, V4, V0], [(.row (.u8t 5))], [(.const (.bcell 2 148)), (.ms 1 (.u8t 5))], [V0]], [], [], [], 4, 0, 0⟩
def qe65_r : Shape := ⟨[(2, .str), (3, V0)], [], [], [], [], 0, 0, 0⟩
noncomputable def ql65 (X : Type) (n : Nat) : CutI X := mkCi 8 0 0 0 qh65 [] [] [qe65_r] fun ks => F.dog_Line.C22 n (xr qe65_r ks)
def qh66 : Shape := ⟨[(1, (.const (.ref 0 0))), (5, (.const (.ref 2 0))), (6, (.const (.ref 3 0))), (7, (.const (.fn 120 [] [(.ref 3 0), (.ref 2 0)])))], [[.str, V0, V3, V0, V4, V0], [(.row (.u8t 5))], [(.const (.bcell 2 148)), (.ms 1 (.u8t 5))], [V0]], [], [], [], 4, 0, 0⟩
def qe66_r : Shape := ⟨[(2, .str), (3, V0)], [], [], [], [], 0, 0, 0⟩
noncomputable def ql66 (X : Type) (n : Nat) : CutI X := mkCi 8 0 0 0 qh66 [] [] [qe66_r] fun ks => F.dog_Line.C19 n (xr qe66_r ks)
def qh67 : Shape := ⟨[(1, (.const (.ref 0 0))), (5, (.const (.ref 2 0))), (6, (.const (.ref 3 0))), (7, (.const (.fn 120 [] [(.ref 3 0), (.ref 2 0)])))], [[.str, V0, V3, V0, V4, V0], [(.row (.u8t 5))], [(.const (.bcell 2 148)), (.ms 1 (.u8t 5))], [V0]], [], [], [], 4, 0, 0⟩
def qe67_r : Shape := ⟨[(2, .str), (3, V0)], [], [], [], [], 0, 0, 0⟩
noncomputable def ql67 (X : Type) (n : Nat) : CutI X := mkCi 8 0 0 0 qh67 [] [] [qe67_r] fun ks => F.dog_Line.C16 n (xr qe67_r ks)
noncomputable def cx59 (X : Type) (n : Nat) : Cx X := mkCx tab.get [(59, Tryz.f59), (120, Tryz.f120), (121, Tryz.f121)] [o35 n, o110 n, o111 n, o122 n, o123 n, o124 n] [(59, 9, [ql63 X n])] [] [] [] [(59, 16, [ql67 X n]), (59, 19, [ql66 X n]), (59, 22, [ql65 X n]), (59, 25, [ql64 X n])] [] [(125, .bstring 148 5), (178, .bcheck 148)] (some (148, 5)) []
theorem qo64 (X : Type) (n : Nat) : CO (cx59 X n) 59 Tryz.f59 24 (ql64 X n) := fun _ _ => by kernel_rfl
theorem qo65 (X : Type) (n : Nat) : CO (cx59 X n) 59 Tryz.f59 21 (ql65 X n) := fun _ _ => by kernel_rfl
theorem qo66 (X : Type) (n : Nat) : CO (cx59 X n) 59 Tryz.f59 18 (ql66 X n) := fun _ _ => by kernel_rfl
theorem qo67 (X : Type) (n : Nat) : CO (cx59 X n) 59 Tryz.f59 17 (ql67 X n) := fun _ _ => by kernel_rfl
theorem qo63 (X : Type) (n : Nat) : LO (cx59 X n) 59 Tryz.f59 0 (ql63 X n) := lok
theorem cx59_ok (X : Type) (n : Nat) : CxOK Tryz.prog SW (cx59 X n) := mx (J (J Tryz.func59 (by decide)) (J (J Tryz.func120 (by decide)) (T1 (J Tryz.func121 (by decide))))) (J (orcOf_ok (ok35 n)) (J (orcOf_ok (ok110 n)) (J (orcOf_ok (ok111 n)) (J (orcOf_ok (ok122 n)) (J (orcOf_ok (ok123 n)) (T1 (orcOf_ok (ok124 n)))))))) (J (okk (J trivial (J trivial (J trivial (J trivial (J trivial (J trivial (J trivial (J trivial (J trivial (J trivial (J trivial (J trivial (J trivial (J trivial (J trivial (J trivial (J trivial (J (T1 (qo67 X n)) (J (T1 (qo66 X n)) (J trivial (J trivial (J (T1 (qo65 X n)) (J trivial (J trivial (J (T1 (qo64 X n)) (J trivial (J trivial (J trivial (J trivial (J trivial (T1 trivial))))))))))))))))))))))))))))))) (T1 (T1 (qo63 X n))) trivial) (J (okc trivial trivial) (T1 (okc trivial trivial)))) trivial (J (bString_ok.mono (fun _ _ => trivial)) (T1 (copyCheck_ok.mono (fun _ _ => trivial))))
abbrev P59 : List SV := [V5]
abbrev R59 : RV := .many [.str, V0]
theorem ok59 (n : Nat) : FO 59 P59 R59 (F.dog_Line n) := fnOK_of WOf.st (cx59_ok _ n) (d := 8) fun _ => by kernel_rfl
noncomputable def o59 (n : Nat) := oc 59 P59 R59 (F.dog_Line n)
noncomputable def cx61 (X : Type) (n : Nat) : Cx X := mkCx tab.get [(61, Tryz.f61)] [o36 n, o110 n, o124 n] [] [] [] []
theorem cx61_ok (X : Type) (n : Nat) : CxOK Tryz.prog SW (cx61 X n) := mx (T1 (J Tryz.func61 (by decide))) (J (orcOf_ok (ok36 n)) (J (orcOf_ok (ok110 n)) (T1 (orcOf_ok (ok124 n))))) (T1 (okc trivial trivial)) trivial
abbrev P61 : List SV := [V5]
abbrev R61 : RV := .many [.str, V0]
theorem ok61 (n : Nat) : FO 61 P61 R61 (F.graphite_Line n) := fnOK_of WOf.st (cx61_ok _ n) (d := 8) fun _ => by kernel_rfl
noncomputable def o61 (n : Nat) := oc 61 P61 R61 (F.graphite_Line n)
noncomputable def cx14 (X : Type) (n : Nat) : Cx X := mkCx tab.get [(14, Tryz.f14), (32, Tryz.f32)] [o35 n, o36 n, o57 n, o59 n, o61 n] [] [] [] []
theorem cx14_ok (X : Type) (n : Nat) : CxOK Tryz.prog SW (cx14 X n) := mx (J (J Tryz.func14 (by decide)) (T1 (J Tryz.func32 (by decide)))) (J (orcOf_ok (ok35 n)) (J (orcOf_ok (ok36 n)) (J (orcOf_ok (ok57 n)) (J (orcOf_ok (ok59 n)) (T1 (orcOf_ok (ok61 n))))))) (J (okc trivial trivial) (T1 (okc trivial trivial))) trivial
abbrev P14 : List SV := [V5, V0]
abbrev R14 : RV := .many [.str, V0]
theorem ok14 (n : Nat) : FO 14 P14 R14 (F.text_Line n) := fnOK_of WOf.st (cx14_ok _ n) (d := 8) fun _ => by kernel_rfl
noncomputable def o14 (n : Nat) := oc 14 P14 R14 (F.text_Line n)
abbrev P82 : List SV := [V6]
abbrev R82 : RV := .one .str
noncomputable def cx82 (X : Type) (n m : Nat) : Cx X := mkCx tab.get [(82, Tryz.f82)] [(82, orcOf P82 R82 (appL P82 (F.ref03_Digits.go n m)))] [] [] [] []
theorem cx82_ok (X : Type) (n m : Nat) (ih : FO 82 P82 R82 (F.ref03_Digits.go n m)) : CxOK Tryz.prog SW (cx82 X n m) := mx (T1 (J Tryz.func82 (by decide))) (T1 (orcOf_ok (ih))) (T1 (okc trivial trivial)) trivial
theorem ok82_go (n : Nat) : ∀ m : Nat, FO 82 P82 R82 (F.ref03_Digits.go n m)
  | 0 => fun x y hy => by cases hy
  | m + 1 => fnOK_of WOf.st (cx82_ok _ n m (ok82_go n m)) (d := 8) fun _ => by kernel_rfl
theorem ok82 (n : Nat) : FO 82 P82 R82 (F.ref03_Digits n) := ok82_go n n
noncomputable def o82 (n : Nat) := oc 82 P82 R82 (F.ref03_Digits n)
noncomputable def cx40 (X : Type) (n : Nat) : Cx X := mkCx tab.get [(40, Tryz.f40)] [o81 n, o82 n] [] [] [(40, 1, [(1, 11), (3, 11), (6, 11)])] []
theorem cx40_ok (X : Type) (n : Nat) : CxOK Tryz.prog SW (cx40 X n) := mx (T1 (J Tryz.func40 (by decide))) (J (orcOf_ok (ok81 n)) (T1 (orcOf_ok (ok82 n)))) (T1 (okc trivial trivial)) trivial
abbrev P40 : List SV := [V7]
abbrev R40 : RV := .many [V7, V0]
theorem ok40 (n : Nat) : FO 40 P40 R40 (F.ref03_Normal n) := fnOK_of WOf.st (cx40_ok _ n) (d := 8) fun _ => by kernel_rfl
noncomputable def o40 (n : Nat) := oc 40 P40 R40 (F.ref03_Normal n)
noncomputable def cx84 (X : Type) (n : Nat) : Cx X := mkCx tab.get [(84, Tryz.f84)] [o149 n] [] [] [] []
theorem cx84_ok (X : Type) (n : Nat) : CxOK Tryz.prog SW (cx84 X n) := mx (T1 (J Tryz.func84 (by decide))) (T1 (orcOf_ok (ok149 n))) (T1 (okc trivial trivial)) trivial
abbrev P84 : List SV := [V11]
abbrev R84 : RV := .one V0
theorem ok84 (n : Nat) : FO 84 P84 R84 (F.ref06_Check n) := fnOK_of WOf.st (cx84_ok _ n) (d := 8) fun _ => by kernel_rfl
noncomputable def o84 (n : Nat) := oc 84 P84 R84 (F.ref06_Check n)
def qh68 : Shape := ⟨[(2, (.const (.ref 0 0))), (5, V0)], [[.str, V0, V3, V0, V4, V0]], [], [], [], 1, 0, 0⟩
def qe68_0 : Shape := ⟨[(2, (.const (.ref 0 0)))], [[.str, V0, V3, V0, V4, V0]], [], [], [], 1, 0, 0⟩
def qe68_r : Shape := ⟨[(4, V0)], [[.str, V0, V3, V0, V4, V0]], [], [], [], 1, 0, 0⟩
noncomputable def ql68 (X : Type) (n : Nat) : LoopI X := mkLi 8 0 0 0 qh68 [(0, qe68_0)] [qe68_r] n fun m ks => F.ref07_Rest.L12 n (xe qe68_0 ks 0) (xr qe68_r ks) m
noncomputable def cx41 (X : Type) (n : Nat) : Cx X := mkCx tab.get [(41, Tryz.f41)] [o83 n, o84 n] [(41, 12, [ql68 X n])] [] [] []
theorem qo68 (X : Type) (n : Nat) : LO (cx41 X n) 41 Tryz.f41 0 (ql68 X n) := lok
theorem cx41_ok (X : Type) (n : Nat) : CxOK Tryz.prog SW (cx41 X n) := mx (T1 (J Tryz.func41 (by decide))) (J (orcOf_ok (ok83 n)) (T1 (orcOf_ok (ok84 n)))) (T1 (okc (T1 (T1 (qo68 X n))) trivial)) trivial
abbrev P41 : List SV := [V5, .bool]
abbrev R41 : RV := .one V0
theorem ok41 (n : Nat) : FO 41 P41 R41 (F.ref07_Rest n) := fnOK_of WOf.st (cx41_ok _ n) (d := 8) fun _ => by kernel_rfl
noncomputable def o41 (n : Nat) := oc 41 P41 R41 (F.ref07_Rest n)
def qh69 : Shape := ⟨[(1, (.const (.ref 0 0))), (2, (.const (.ref 1 0))), (4, .bool), (5, (.sl Y2 (.own 0))), (6, V0)], [[.str, V0, V3, V0, V4, V0], [.str, V0, (.sl Y2 (.own 1)), V0, (.sl Y3 (.own 2)), V0]], [true, true, true], [], [], 2, 0, 0⟩
def qe69_0 : Shape := ⟨[(1, (.const (.ref 0 0))), (2, (.const (.ref 1 0))), (4, .bool), (5, (.sl Y2 (.own 0)))], [[.str, V0, V3, V0, V4, V0], [.str, V0, (.sl Y2 (.own 1)), V0, (.sl Y3 (.own 2)), V0]], [true, true, true], [], [], 2, 0, 0⟩
noncomputable def ql69 (X : Type) (n : Nat) : LoopI X := mkLi 8 0 0 0 qh69 [(0, qe69_0)] [] n fun m ks => F.ref07_Normal.L4 n (xe qe69_0 ks 0) m
noncomputable def cx19 (X : Type) (n : Nat) : Cx X := mkCx tab.get [(19, Tryz.f19)] [o40 n, o41 n, o42 n] [(19, 4, [ql69 X n])] [] [] []
theorem qo69 (X : Type) (n : Nat) : LO (cx19 X n) 19 Tryz.f19 0 (ql69 X n) := lok
theorem cx19_ok (X : Type) (n : Nat) : CxOK Tryz.prog SW (cx19 X n) := mx (T1 (J Tryz.func19 (by decide))) (J (orcOf_ok (ok40 n)) (J (orcOf_ok (ok41 n)) (T1 (orcOf_ok (ok42 n))))) (T1 (okc (T1 (T1 (qo69 X n))) trivial)) trivial
abbrev P19 : List SV := [V5]
abbrev R19 : RV := .many [V5, V0]
theorem ok19 (n : Nat) : FO 19 P19 R19 (F.ref07_Normal n) := fnOK_of WOf.st (cx19_ok _ n) (d := 8) fun _ => by kernel_rfl
noncomputable def o19 (n : Nat) := oc 19 P19 R19 (F.ref07_Normal n)
noncomputable def cx86 (X : Type) (n : Nat) : Cx X := mkCx tab.get [(86, Tryz.f86)] [o81 n, o82 n] [] [] [(86, 3, [(1, 11), (3, 11), (6, 11)])] []
theorem cx86_ok (X : Type) (n : Nat) : CxOK Tryz.prog SW (cx86 X n) := mx (T1 (J Tryz.func86 (by decide))) (J (orcOf_ok (ok81 n)) (T1 (orcOf_ok (ok82 n)))) (T1 (okc trivial trivial)) trivial
abbrev P86 : List SV := [V7]
abbrev R86 : RV := .one V0
theorem ok86 (n : Nat) : FO 86 P86 R86 (F.ref03_Check n) := fnOK_of WOf.st (cx86_ok _ n) (d := 8) fun _ => by kernel_rfl
noncomputable def o86 (n : Nat) := oc 86 P86 R86 (F.ref03_Check n)
def qh70 : Shape := ⟨[(1, (.const (.ref 0 0))), (3, .bool), (4, V0)], [[.str, V0, V3, V0, V4, V0]], [], [], [], 1, 0, 0⟩
def qe70_0 : Shape := ⟨[(1, (.const (.ref 0 0))), (3, .bool)], [[.str, V0, V3, V0, V4, V0]], [], [], [], 1, 0, 0⟩
noncomputable def ql70 (X : Type) (n : Nat) : LoopI X := mkLi 8 0 0 0 qh70 [(0, qe70_0)] [] n fun m ks => F.ref07_Check.L3 n (xe qe70_0 ks 0) m
noncomputable def cx43 (X : Type) (n : Nat) : Cx X := mkCx tab.get [(43, Tryz.f43)] [o41 n, o86 n] [(43, 3, [ql70 X n])] [] [] []
theorem qo70 (X : Type) (n : Nat) : LO (cx43 X n) 43 Tryz.f43 0 (ql70 X n) := lok
theorem cx43_ok (X : Type) (n : Nat) : CxOK Tryz.prog SW (cx43 X n) := mx (T1 (J Tryz.func43 (by decide))) (J (orcOf_ok (ok41 n)) (T1 (orcOf_ok (ok86 n)))) (T1 (okc (T1 (T1 (qo70 X n))) trivial)) trivial
abbrev P43 : List SV := [V5]
abbrev R43 : RV := .one V0
theorem ok43 (n : Nat) : FO 43 P43 R43 (F.ref07_Check n) := fnOK_of WOf.st (cx43_ok _ n) (d := 8) fun _ => by kernel_rfl
noncomputable def o43 (n : Nat) := oc 43 P43 R43 (F.ref07_Check n)
noncomputable def cx44 (X : Type) (n : Nat) : Cx X := mkCx tab.get [(44, Tryz.f44)] [] [] [] [] []
theorem cx44_ok (X : Type) (n : Nat) : CxOK Tryz.prog SW (cx44 X n) := mx (T1 (J Tryz.func44 (by decide))) trivial (T1 (okc trivial trivial)) trivial
abbrev P44 : List SV := [V5, V0]
abbrev R44 : RV := .one .bool
theorem ok44 (n : Nat) : FO 44 P44 R44 (F.ref09_Says n) := fnOK_of WOf.st (cx44_ok _ n) (d := 8) fun _ => by kernel_rfl
noncomputable def o44 (n : Nat) := oc 44 P44 R44 (F.ref09_Says n)
def qh71 : Shape := ⟨[(1, (.const (.ref 0 0))), (3, .str), (4, V0)], [[.bool, V6, V0]], [], [], [], 1, 0, 0⟩
def qe71_0 : Shape := ⟨[(1, (.const (.ref 0 0))), (3, .str)], [[.bool, V6, V0]], [], [], [], 1, 0, 0⟩
noncomputable def ql71 (X : Type) (n : Nat) : LoopI X := mkLi 8 0 0 0 qh71 [(0, qe71_0)] [] n fun m ks => F.ref03_Text.L3 n (xe qe71_0 ks 0) m
def qh72 : Shape := ⟨[(1, (.const (.ref 0 0))), (3, .str)], [[.bool, V6, V0]], [], [], [], 1, 0, 0⟩
def qe72_2 : Shape := ⟨[(1, (.const (.ref 0 0))), (3, .str)], [[.bool, V6, V0]], [], [], [], 1, 0, 0⟩
noncomputable def ql72 (X : Type) (n : Nat) : LoopI X := mkLi 8 0 0 0 qh72 [(2, qe72_2)] [] n fun m ks => F.ref03_Text.L7 n (xe qe72_2 ks 2) m
noncomputable def cx87 (X : Type) (n : Nat) : Cx X := mkCx tab.get [(87, Tryz.f87)] [o82 n] [(87, 3, [ql71 X n]), (87, 7, [ql72 X n])] [] [] []
theorem qo71 (X : Type) (n : Nat) : LO (cx87 X n) 87 Tryz.f87 0 (ql71 X n) := lok
theorem qo72 (X : Type) (n : Nat) : LO (cx87 X n) 87 Tryz.f87 1 (ql72 X n) := lok
theorem cx87_ok (X : Type) (n : Nat) : CxOK Tryz.prog SW (cx87 X n) := mx (T1 (J Tryz.func87 (by decide))) (T1 (orcOf_ok (ok82 n))) (T1 (okc (J (T1 (qo71 X n)) (T1 (T1 (qo72 X n)))) trivial)) trivial
abbrev P87 : List SV := [V7]
abbrev R87 : RV := .one .str
theorem ok87 (n : Nat) : FO 87 P87 R87 (F.ref03_Text n) := fnOK_of WOf.st (cx87_ok _ n) (d := 8) fun _ => by kernel_rfl
noncomputable def o87 (n : Nat) := oc 87 P87 R87 (F.ref03_Text n)
abbrev P151 : List SV := [V6]
abbrev R151 : RV := .one .str
noncomputable def cx151 (X : Type) (n m : Nat) : Cx X := mkCx tab.get [(151, Tryz.f151)] [(151, orcOf P151 R151 (appL P151 (F.ref05_Digits.go n m)))] [] [] [] []
theorem cx151_ok (X : Type) (n m : Nat) (ih : FO 151 P151 R151 (F.ref05_Digits.go n m)) : CxOK Tryz.prog SW (cx151 X n m) := mx (T1 (J Tryz.func151 (by decide))) (T1 (orcOf_ok (ih))) (T1 (okc trivial trivial)) trivial
theorem ok151_go (n : Nat) : ∀ m : Nat, FO 151 P151 R151 (F.ref05_Digits.go n m)
  | 0 => fun x y hy => by cases hy
  | m + 1 => fnOK_of WOf.st (cx151_ok _ n m (ok151_go n m)) (d := 8) fun _ => by kernel_rfl
theorem ok151 (n : Nat) : FO 151 P151 R151 (F.ref05_Digits n) := ok151_go n n
noncomputable def o151 (n : Nat) := oc 151 P151 R151 (F.ref05_Digits n)
def qh73 : Shape := ⟨[(3, .str)], [], [], [], [], 0, 0, 0⟩
def qe73_0 : Shape := ⟨[(3, .str)], [], [], [], [], 0, 0, 0⟩
noncomputable def ql73 (X : Type) (n : Nat) : LoopI X := mkLi 8 0 0 0 qh73 [(0, qe73_0)] [] n fun m ks => F.ref05_RateText.L4 n (xe qe73_0 ks 0) m
def qh74 : Shape := ⟨[(3, .str)], [], [], [], [], 0, 0, 0⟩
def qe74_2 : Shape := ⟨[(3, .str)], [], [], [], [], 0, 0, 0⟩
noncomputable def ql74 (X : Type) (n : Nat) : LoopI X := mkLi 8 0 0 0 qh74 [(2, qe74_2)] [] n fun m ks => F.ref05_RateText.L6 n (xe qe74_2 ks 2) m
noncomputable def cx89 (X : Type) (n : Nat) : Cx X := mkCx tab.get [(89, Tryz.f89)] [o151 n] [(89, 4, [ql73 X n]), (89, 6, [ql74 X n])] [] [] []
theorem qo73 (X : Type) (n : Nat) : LO (cx89 X n) 89 Tryz.f89 0 (ql73 X n) := lok
theorem qo74 (X : Type) (n : Nat) : LO (cx89 X n) 89 Tryz.f89 1 (ql74 X n) := lok
theorem cx89_ok (X : Type) (n : Nat) : CxOK Tryz.prog SW (cx89 X n) := mx (T1 (J Tryz.func89 (by decide))) (T1 (orcOf_ok (ok151 n))) (T1 (okc (J (T1 (qo73 X n)) (T1 (T1 (qo74 X n)))) trivial)) trivial
abbrev P89 : List SV := [V0]
abbrev R89 : RV := .one .str
theorem ok89 (n : Nat) : FO 89 P89 R89 (F.ref05_RateText n) := fnOK_of WOf.st (cx89_ok _ n) (d := 8) fun _ => by kernel_rfl
noncomputable def o89 (n : Nat) := oc 89 P89 R89 (F.ref05_RateText n)
noncomputable def cx45 (X : Type) (n : Nat) : Cx X := mkCx tab.get [(45, Tryz.f45)] [o87 n, o88 n, o89 n] [] [] [] []
theorem cx45_ok (X : Type) (n : Nat) : CxOK Tryz.prog SW (cx45 X n) := mx (T1 (J Tryz.func45 (by decide))) (J (orcOf_ok (ok87 n)) (J (orcOf_ok (ok88 n)) (T1 (orcOf_ok (ok89 n))))) (T1 (okc trivial trivial)) trivial
abbrev P45 : List SV := [V5]
abbrev R45 : RV := .one .str
theorem ok45 (n : Nat) : FO 45 P45 R45 (F.ref10_Line n) := fnOK_of WOf.st (cx45_ok _ n) (d := 8) fun _ => by kernel_rfl
noncomputable def o45 (n : Nat) := oc 45 P45 R45 (F.ref10_Line n)
def qh75 : Shape := ⟨[(0, V4), (3, .str), (4, V0)], [], [], [], [], 0, 0, 0⟩
def qe75_0 : Shape := ⟨[(3, .str)], [], [], [], [], 0, 0, 0⟩
noncomputable def ql75 (X : Type) (n : Nat) : LoopI X := mkLi 8 0 0 0 qh75 [(0, qe75_0)] [] n fun m ks => F.ref06_Text.L3 n (xe qe75_0 ks 0) m
noncomputable def cx91 (X : Type) (n : Nat) : Cx X := mkCx tab.get [(91, Tryz.f91)] [o152 n] [(91, 3, [ql75 X n])] [] [] []
theorem qo75 (X : Type) (n : Nat) : LO (cx91 X n) 91 Tryz.f91 0 (ql75 X n) := lok
theorem cx91_ok (X : Type) (n : Nat) : CxOK Tryz.prog SW (cx91 X n) := mx (T1 (J Tryz.func91 (by decide))) (T1 (orcOf_ok (ok152 n))) (T1 (okc (T1 (T1 (qo75 X n))) trivial)) trivial
abbrev P91 : List SV := [V4]
abbrev R91 : RV := .one .str
theorem ok91 (n : Nat) : FO 91 P91 R91 (F.ref06_Text n) := fnOK_of WOf.st (cx91_ok _ n) (d := 8) fun _ => by kernel_rfl
noncomputable def o91 (n : Nat) := oc 91 P91 R91 (F.ref06_Text n)
noncomputable def cx92 (X : Type) (n : Nat) : Cx X := mkCx tab.get [(92, Tryz.f92)] [o151 n] [] [] [] []
theorem cx92_ok (X : Type) (n : Nat) : CxOK Tryz.prog SW (cx92 X n) := mx (T1 (J Tryz.func92 (by decide))) (T1 (orcOf_ok (ok151 n))) (T1 (okc trivial trivial)) trivial
abbrev P92 : List SV := [V0]
abbrev R92 : RV := .one .str
theorem ok92 (n : Nat) : FO 92 P92 R92 (F.ref05_Text n) := fnOK_of WOf.st (cx92_ok _ n) (d := 8) fun _ => by kernel_rfl
noncomputable def o92 (n : Nat) := oc 92 P92 R92 (F.ref05_Text n)
def qh76 : Shape := ⟨[(1, (.const (.ref 0 0))), (3, .str), (4, V0)], [[.str, V0, V3, V0, V4, V0]], [], [], [], 1, 0, 0⟩
def qe76_0 : Shape := ⟨[(1, (.const (.ref 0 0))), (3, .str)], [[.str, V0, V3, V0, V4, V0]], [], [], [], 1, 0, 0⟩
noncomputable def ql76 (X : Type) (n : Nat) : LoopI X := mkLi 8 0 0 0 qh76 [(0, qe76_0)] [] n fun m ks => F.ref11_Line.L3 n (xe qe76_0 ks 0) m
noncomputable def cx46 (X : Type) (n : Nat) : Cx X := mkCx tab.get [(46, Tryz.f46)] [o87 n, o89 n, o90 n, o91 n, o92 n] [(46, 3, [ql76 X n])] [] [] []
theorem qo76 (X : Type) (n : Nat) : LO (cx46 X n) 46 Tryz.f46 0 (ql76 X n) := lok
theorem cx46_ok (X : Type) (n : Nat) : CxOK Tryz.prog SW (cx46 X n) := mx (T1 (J Tryz.func46 (by decide))) (J (orcOf_ok (ok87 n)) (J (orcOf_ok (ok89 n)) (J (orcOf_ok (ok90 n)) (J (orcOf_ok (ok91 n)) (T1 (orcOf_ok (ok92 n))))))) (T1 (okc (T1 (T1 (qo76 X n))) trivial)) trivial
abbrev P46 : List SV := [V5]
abbrev R46 : RV := .one .str
theorem ok46 (n : Nat) : FO 46 P46 R46 (F.ref11_Line n) := fnOK_of WOf.st (cx46_ok _ n) (d := 8) fun _ => by kernel_rfl
noncomputable def o46 (n : Nat) := oc 46 P46 R46 (F.ref11_Line n)
noncomputable def cx47 (X : Type) (n : Nat) : Cx X := mkCx tab.get [(47, Tryz.f47)] [o87 n, o92 n] [] [] [] []
theorem cx47_ok (X : Type) (n : Nat) : CxOK Tryz.prog SW (cx47 X n) := mx (T1 (J Tryz.func47 (by decide))) (J (orcOf_ok (ok87 n)) (T1 (orcOf_ok (ok92 n)))) (T1 (okc trivial trivial)) trivial
abbrev P47 : List SV := [V5]
abbrev R47 : RV := .one .str
theorem ok47 (n : Nat) : FO 47 P47 R47 (F.ref12_Line n) := fnOK_of WOf.st (cx47_ok _ n) (d := 8) fun _ => by kernel_rfl
noncomputable def o47 (n : Nat) := oc 47 P47 R47 (F.ref12_Line n)
noncomputable def cx21 (X : Type) (n : Nat) : Cx X := mkCx tab.get [(21, Tryz.f21)] [o45 n, o46 n, o47 n] [] [] [] []
theorem cx21_ok (X : Type) (n : Nat) : CxOK Tryz.prog SW (cx21 X n) := mx (T1 (J Tryz.func21 (by decide))) (J (orcOf_ok (ok45 n)) (J (orcOf_ok (ok46 n)) (T1 (orcOf_ok (ok47 n))))) (T1 (okc trivial trivial)) trivial
abbrev P21 : List SV := [V5, V0]
abbrev R21 : RV := .one .str
theorem ok21 (n : Nat) : FO 21 P21 R21 (F.ref13_Line n) := fnOK_of WOf.st (cx21_ok _ n) (d := 8) fun _ => by kernel_rfl
noncomputable def o21 (n : Nat) := oc 21 P21 R21 (F.ref13_Line n)
def qh82 : Shape := ⟨[(0, V14), (3, V0)], [], [], [], [], 0, 0, 0⟩
def qe82_0 : Shape := ⟨[(0, V14)], [], [], [], [], 0, 0, 0⟩
def qe82_r : Shape := ⟨[(2, .bool)], [], [], [], [], 0, 0, 0⟩
noncomputable def ql82 (X : Type) (n : Nat) : LoopI X := mkLi 8 0 0 0 qh82 [(0, qe82_0)] [qe82_r] n fun m ks => F.law13_Few.L2 n (xe qe82_0 ks 0) (xr qe82_r ks) m
noncomputable def cx23 (X : Type) (n : Nat) : Cx X := mkCx tab.get [(23, Tryz.f23)] [o13 n] [(23, 2, [ql82 X n])] [] [] []
theorem qo82 (X : Type) (n : Nat) : LO (cx23 X n) 23 Tryz.f23 0 (ql82 X n) := lok
theorem cx23_ok (X : Type) (n : Nat) : CxOK Tryz.prog SW (cx23 X n) := mx (T1 (J Tryz.func23 (by decide))) (T1 (orcOf_ok (ok13 n))) (T1 (okc (T1 (T1 (qo82 X n))) trivial)) trivial
abbrev P23 : List SV := [V14]
abbrev R23 : RV := .one .bool
theorem ok23 (n : Nat) : FO 23 P23 R23 (F.law13_Few n) := fnOK_of WOf.st (cx23_ok _ n) (d := 8) fun _ => by kernel_rfl
noncomputable def o23 (n : Nat) := oc 23 P23 R23 (F.law13_Few n)
def qh83 : Shape := ⟨[(0, (.const (.yield 0))), (2, (.const (.ref 5 0))), (8, V14), (9, V0), (10, V0)], [[(.sl Y6 (.own 0))], [V0], [V0], [(.sl Y6 (.own 1))], [V14], [(.const (.fn 35 [] []))]], [true, true], [.ready], [(0, 52, 5, [(4, (.const (.ref 0 0))), (5, (.const (.ref 1 0))), (6, (.const (.ref 2 0))), (7, (.const (.ref 3 0)))])], 6, 0, 1⟩
def qe83_0 : Shape := ⟨[], [[(.sl Y6 (.own 0))], [V0], [V0], [(.sl Y6 (.own 1))], [V14], [(.const (.fn 35 [] []))]], [true, true], [.ready], [], 6, 0, 1⟩
def qe83_r : Shape := ⟨[], [[(.sl Y6 (.own 0))], [V0], [V0], [(.sl Y6 (.own 1))], [V14], [(.const (.fn 35 [] []))]], [true, true], [.done .ret], [], 6, 0, 1⟩
def qe83_rx1 : Shape := ⟨[], [[(.sl Y6 (.own 0))], [V0], [V0], [(.sl Y6 (.own 1))], [V14], [(.const (.fn 35 [] []))]], [true, true], [.ready], [], 6, 0, 1⟩
noncomputable def ql83 (X : Type) (n : Nat) : LoopI X := mkLi 6 6 0 1 qh83 [(0, qe83_0)] [qe83_r, qe83_rx1] n fun m ks => F.batch_Normal.L1_batch_all_api_Metric_1 n (xe qe83_0 ks 0) (xr qe83_r ks) (xr qe83_rx1 ks) m
noncomputable def cx29 (X : Type) (n : Nat) : Cx X := mkCx tab.get [(29, Tryz.f29), (52, Tryz.f52), (96, Tryz.f96), (155, Tryz.f155)] [o35 n] [(155, 1, [ql83 X n])] [(52, 5, Tryz.f52, [4, 5, 6, 7], 0)] [(52, 8, [(0, 3)])] []
theorem qo83 (X : Type) (n : Nat) : LO (cx29 X n) 155 Tryz.f155 0 (ql83 X n) := lok
theorem cx29_ok (X : Type) (n : Nat) : CxOK Tryz.prog SW (cx29 X n) := mx (J (J Tryz.func29 (by decide)) (J (J Tryz.func52 (by decide)) (J (J Tryz.func96 (by decide)) (T1 (J Tryz.func155 (by decide)))))) (T1 (orcOf_ok (ok35 n))) (J (okc trivial trivial) (J (okc trivial (T1 (rfo (cx := cx29 X n) (g := 52) (i := 5) (lv := [4, 5, 6, 7]) (show _ = some (Tryz.f52.ntmps, _, rfNo Tryz.f52 0) by kernel_rfl)))) (J (okc trivial trivial) (T1 (okc (T1 (T1 (qo83 X n))) trivial))))) (T1 (J Tryz.func52 rfl))
abbrev P29 : List SV := [V14]
abbrev R29 : RV := .many [V14, V0, V0]
theorem ok29 (n : Nat) : FO 29 P29 R29 (F.batch_Normal n) := fnOK_of WOf.st (cx29_ok _ n) (d := 8) fun _ => by kernel_rfl
noncomputable def o29 (n : Nat) := oc 29 P29 R29 (F.batch_Normal n)
noncomputable def cx108 (X : Type) (n : Nat) : Cx X := mkCx tab.get [(108, Tryz.f108)] [o53 n] [] [] [] []
theorem cx108_ok (X : Type) (n : Nat) : CxOK Tryz.prog SW (cx108 X n) := mx (T1 (J Tryz.func108 (by decide))) (T1 (orcOf_ok (ok53 n))) (T1 (okc trivial trivial)) trivial
abbrev P108 : List SV := [V5]
abbrev R108 : RV := .many [.bool, V0]
theorem ok108 (n : Nat) : FO 108 P108 R108 (F.batch_Check_1 n) := fnOK_of WOf.st (cx108_ok _ n) (d := 8) fun _ => by kernel_rfl
noncomputable def o108 (n : Nat) := oc 108 P108 R108 (F.batch_Check_1 n)
def qh84 : Shape := ⟨[(0, (.const (.yield 0))), (2, (.const (.ref 5 0))), (8, V14), (9, V0), (10, V0)], [[(.sl .bool (.own 0))], [V0], [V0], [(.sl .bool (.own 1))], [V14], [(.const (.fn 108 [] []))]], [true, true], [.ready], [(0, 107, 5, [(4, (.const (.ref 0 0))), (5, (.const (.ref 1 0))), (6, (.const (.ref 2 0))), (7, (.const (.ref 3 0)))])], 6, 0, 1⟩
def qe84_0 : Shape := ⟨[], [[(.sl .bool (.own 0))], [V0], [V0], [(.sl .bool (.own 1))], [V14], [(.const (.fn 108 [] []))]], [true, true], [.ready], [], 6, 0, 1⟩
def qe84_r : Shape := ⟨[], [[(.sl .bool (.own 0))], [V0], [V0], [(.sl .bool (.own 1))], [V14], [(.const (.fn 108 [] []))]], [true, true], [.done .ret], [], 6, 0, 1⟩
def qe84_rx1 : Shape := ⟨[], [[(.sl .bool (.own 0))], [V0], [V0], [(.sl .bool (.own 1))], [V14], [(.const (.fn 108 [] []))]], [true, true], [.ready], [], 6, 0, 1⟩
noncomputable def ql84 (X : Type) (n : Nat) : LoopI X := mkLi 6 6 0 1 qh84 [(0, qe84_0)] [qe84_r, qe84_rx1] n fun m ks => F.batch_Check.L1_batch_all_bool_1 n (xe qe84_0 ks 0) (xr qe84_r ks) (xr qe84_rx1 ks) m
noncomputable def cx56 (X : Type) (n : Nat) : Cx X := mkCx tab.get [(56, Tryz.f56), (107, Tryz.f107), (164, Tryz.f164), (198, Tryz.f198)] [o108 n] [(198, 1, [ql84 X n])] [(107, 5, Tryz.f107, [4, 5, 6, 7], 0)] [(107, 8, [(0, 3)])] []
theorem qo84 (X : Type) (n : Nat) : LO (cx56 X n) 198 Tryz.f198 0 (ql84 X n) := lok
theorem cx56_ok (X : Type) (n : Nat) : CxOK Tryz.prog SW (cx56 X n) := mx (J (J Tryz.func56 (by decide)) (J (J Tryz.func107 (by decide)) (J (J Tryz.func164 (by decide)) (T1 (J Tryz.func198 (by decide)))))) (T1 (orcOf_ok (ok108 n))) (J (okc trivial trivial) (J (okc trivial (T1 (rfo (cx := cx56 X n) (g := 107) (i := 5) (lv := [4, 5, 6, 7]) (show _ = some (Tryz.f107.ntmps, _, rfNo Tryz.f107 0) by kernel_rfl)))) (J (okc trivial trivial) (T1 (okc (T1 (T1 (qo84 X n))) trivial))))) (T1 (J Tryz.func107 rfl))
abbrev P56 : List SV := [V14]
abbrev R56 : RV := .many [V0, V0]
theorem ok56 (n : Nat) : FO 56 P56 R56 (F.batch_Check n) := fnOK_of WOf.st (cx56_ok _ n) (d := 8) fun _ => by kernel_rfl
noncomputable def o56 (n : Nat) := oc 56 P56 R56 (F.batch_Check n)
def qh85 : Shape := ⟨[(6, (.const (.fn 104 [] []))), (29, V14), (30, V0), (31, V0)], [[(.const (.fmp [(1, 104), (2, 105), (3, 106), (4, 105)]))]], [], [], [], 1, 0, 0⟩
def qe85_0 : Shape := ⟨[], [[(.const (.fmp [(1, 104), (2, 105), (3, 106), (4, 105)]))]], [], [], [], 1, 0, 0⟩
def qe85_r : Shape := ⟨[(4, V0), (5, V0)], [[(.const (.fmp [(1, 104), (2, 105), (3, 106), (4, 105)]))]], [], [], [], 1, 0, 0⟩
noncomputable def ql85 (X : Type) (n : Nat) : LoopI X := mkLi 8 0 0 0 qh85 [(0, qe85_0)] [qe85_r] n fun m ks => F.expr_Batch.L8 n (fun _ => xe qe85_0 ks 0) (xr qe85_r ks) m
def qh86 : Shape := ⟨[(6, (.const (.fn 105 [] []))), (29, V14), (30, V0), (31, V0)], [[(.const (.fmp [(1, 104), (2, 105), (3, 106), (4, 105)]))]], [], [], [], 1, 0, 0⟩
def qe86_0 : Shape := ⟨[], [[(.const (.fmp [(1, 104), (2, 105), (3, 106), (4, 105)]))]], [], [], [], 1, 0, 0⟩
def qe86_r : Shape := ⟨[(4, V0), (5, V0)], [[(.const (.fmp [(1, 104), (2, 105), (3, 106), (4, 105)]))]], [], [], [], 1, 0, 0⟩
noncomputable def ql86 (X : Type) (n : Nat) : LoopI X := mkLi 8 0 0 0 qh86 [(0, qe86_0)] [qe86_r] n fun m ks => F.expr_Batch.L8_1 n (fun _ => xe qe86_0 ks 0) (xr qe86_r ks) m
def qh87 : Shape := ⟨[(6, (.const (.fn 106 [] []))), (29, V14), (30, V0), (31, V0)], [[(.const (.fmp [(1, 104), (2, 105), (3, 106), (4, 105)]))]], [], [], [], 1, 0, 0⟩
def qe87_0 : Shape := ⟨[], [[(.const (.fmp [(1, 104), (2, 105), (3, 106), (4, 105)]))]], [], [], [], 1, 0, 0⟩
def qe87_r : Shape := ⟨[(4, V0), (5, V0)], [[(.const (.fmp [(1, 104), (2, 105), (3, 106), (4, 105)]))]], [], [], [], 1, 0, 0⟩
noncomputable def ql87 (X : Type) (n : Nat) : LoopI X := mkLi 8 0 0 0 qh87 [(0, qe87_0)] [qe87_r] n fun m ks => F.expr_Batch.L8_2 n (fun _ => xe qe87_0 ks 0) (xr qe87_r ks) m
noncomputable def cx31 (X : Type) (n : Nat) : Cx X := mkCx tab.get [(31, Tryz.f31)] [o56 n, o104 n, o105 n, o106 n] [(31, 8, [ql85 X n, ql86 X n, ql87 X n])] [] [] [] [] [] [(55, .fmts [(1, 104), (2, 105), (3, 106), (4, 105)])] none []
theorem qo85 (X : Type) (n : Nat) : LO (cx31 X n) 31 Tryz.f31 0 (ql85 X n) := lok
theorem qo86 (X : Type) (n : Nat) : LO (cx31 X n) 31 Tryz.f31 0 (ql86 X n) := lok
theorem qo87 (X : Type) (n : Nat) : LO (cx31 X n) 31 Tryz.f31 0 (ql87 X n) := lok
theorem cx31_ok (X : Type) (n : Nat) : CxOK Tryz.prog SW (cx31 X n) := mx (T1 (J Tryz.func31 (by decide))) (J (orcOf_ok (ok56 n)) (J (orcOf_ok (ok104 n)) (J (orcOf_ok (ok105 n)) (T1 (orcOf_ok (ok106 n)))))) (T1 (okc (T1 (J (qo85 X n) (J (qo86 X n) (T1 (qo87 X n))))) trivial)) trivial (T1 (fmts_ok.mono (fun _ _ => trivial)))
abbrev P31 : List SV := [V14, V0]
abbrev R31 : RV := .many [V0, V0]
theorem ok31 (n : Nat) : FO 31 P31 R31 (F.expr_Batch n) := fnOK_of WOf.st (cx31_ok _ n) (d := 8) fun _ => by kernel_rfl
noncomputable def o31 (n : Nat) := oc 31 P31 R31 (F.expr_Batch n)
def qh88 : Shape := ⟨[(1, V0), (13, (.sl .str (.own 0))), (48, V14), (49, V0), (50, V0)], [[(.const (.fn 57 [] [])), (.const (.fn 58 [] []))], [(.const (.fn 57 [] [])), (.const (.fn 58 [] []))]], [true], [], [], 2, 0, 0⟩
def qe88_0 : Shape := ⟨[(13, (.sl .str (.own 0)))], [[(.const (.fn 57 [] [])), (.const (.fn 58 [] []))], [(.const (.fn 57 [] [])), (.const (.fn 58 [] []))]], [true], [], [], 2, 0, 0⟩
def qe88_r : Shape := ⟨[(4, (.sl .str (.own 0))), (5, V0), (6, V0)], [[(.const (.fn 57 [] [])), (.const (.fn 58 [] []))], [(.const (.fn 57 [] [])), (.const (.fn 58 [] []))]], [true], [], [], 2, 0, 0⟩
noncomputable def ql88 (X : Type) (n : Nat) : LoopI X := mkLi 8 0 0 0 qh88 [(0, qe88_0)] [qe88_r] n fun m ks => F.text_Lines.L12 n (xe qe88_0 ks 0) (xr qe88_r ks) m
def qh89 : Shape := ⟨[(1, V0), (13, (.sl .str (.own 0))), (48, V14), (49, V0), (50, V0)], [[(.const (.fn 59 [] [])), (.const (.fn 60 [] []))], [(.const (.fn 59 [] [])), (.const (.fn 60 [] []))]], [true], [], [], 2, 0, 0⟩
def qe89_0 : Shape := ⟨[(13, (.sl .str (.own 0)))], [[(.const (.fn 59 [] [])), (.const (.fn 60 [] []))], [(.const (.fn 59 [] [])), (.const (.fn 60 [] []))]], [true], [], [], 2, 0, 0⟩
def qe89_r : Shape := ⟨[(4, (.sl .str (.own 0))), (5, V0), (6, V0)], [[(.const (.fn 59 [] [])), (.const (.fn 60 [] []))], [(.const (.fn 59 [] [])), (.const (.fn 60 [] []))]], [true], [], [], 2, 0, 0⟩
noncomputable def ql89 (X : Type) (n : Nat) : LoopI X := mkLi 8 0 0 0 qh89 [(0, qe89_0)] [qe89_r] n fun m ks => F.text_Lines.L12 n (xe qe89_0 ks 0) (xr qe89_r ks) m
def qh90 : Shape := ⟨[(1, V0), (13, (.sl .str (.own 0))), (48, V14), (49, V0), (50, V0)], [[(.const (.fn 61 [] [])), (.const (.fn 62 [] []))], [(.const (.fn 61 [] [])), (.const (.fn 62 [] []))]], [true], [], [], 2, 0, 0⟩
def qe90_0 : Shape := ⟨[(13, (.sl .str (.own 0)))], [[(.const (.fn 61 [] [])), (.const (.fn 62 [] []))], [(.const (.fn 61 [] [])), (.const (.fn 62 [] []))]], [true], [], [], 2, 0, 0⟩
def qe90_r : Shape := ⟨[(4, (.sl .str (.own 0))), (5, V0), (6, V0)], [[(.const (.fn 61 [] [])), (.const (.fn 62 [] []))], [(.const (.fn 61 [] [])), (.const (.fn 62 [] []))]], [true], [], [], 2, 0, 0⟩
noncomputable def ql90 (X : Type) (n : Nat) : LoopI X := mkLi 8 0 0 0 qh90 [(0, qe90_0)] [qe90_r] n fun m ks => F.text_Lines.L12 n (xe qe90_0 ks 0) (xr qe90_r ks) m
noncomputable def cx24 (X : Type) (n : Nat) : Cx X := mkCx tab.get [(24, Tryz.f24), (32, Tryz.f32)] [o14 n, o29 n, o31 n] [(24, 12, [ql88 X n, ql89 X n, ql90 X n])] [] [] []
theorem qo88 (X : Type) (n : Nat) : LO (cx24 X n) 24 Tryz.f24 0 (ql88 X n) := lok
theorem qo89 (X : Type) (n : Nat) : LO (cx24 X n) 24 Tryz.f24 0 (ql89 X n) := lok
theorem qo90 (X : Type) (n : Nat) : LO (cx24 X n) 24 Tryz.f24 0 (ql90 X n) := lok
theorem cx24_ok (X : Type) (n : Nat) : CxOK Tryz.prog SW (cx24 X n) := mx (J (J Tryz.func24 (by decide)) (T1 (J Tryz.func32 (by decide)))) (J (orcOf_ok (ok14 n)) (J (orcOf_ok (ok29 n)) (T1 (orcOf_ok (ok31 n))))) (J (okc (T1 (J (qo88 X n) (J (qo89 X n) (T1 (qo90 X n))))) trivial) (T1 (okc trivial trivial))) trivial
abbrev P24 : List SV := [V14, V0]
abbrev R24 : RV := .many [V9, V0, V0]
theorem ok24 (n : Nat) : FO 24 P24 R24 (F.text_Lines n) := fnOK_of WOf.st (cx24_ok _ n) (d := 8) fun _ => by kernel_rfl
noncomputable def o24 (n : Nat) := oc 24 P24 R24 (F.text_Lines n)
def qh91 : Shape := ⟨[(10, (.sl .u8 (.own 0))), (24, V9), (25, V0), (26, V0)], [], [true], [], [], 0, 0, 0⟩
def qe91_0 : Shape := ⟨[(10, (.sl .u8 (.own 0)))], [], [true], [], [], 0, 0, 0⟩
noncomputable def ql91 (X : Type) (n : Nat) : LoopI X := mkLi 8 0 0 0 qh91 [(0, qe91_0)] [] n fun m ks => F.text_Encode.L6 n (xe qe91_0 ks 0) m
noncomputable def cx25 (X : Type) (n : Nat) : Cx X := mkCx tab.get [(25, Tryz.f25)] [o24 n] [(25, 6, [ql91 X n])] [] [] []
theorem qo91 (X : Type) (n : Nat) : LO (cx25 X n) 25 Tryz.f25 0 (ql91 X n) := lok
theorem cx25_ok (X : Type) (n : Nat) : CxOK Tryz.prog SW (cx25 X n) := mx (T1 (J Tryz.func25 (by decide))) (T1 (orcOf_ok (ok24 n))) (T1 (okc (T1 (T1 (qo91 X n))) trivial)) trivial
abbrev P25 : List SV := [V14, V0]
abbrev R25 : RV := .many [V13, V0, V0]
theorem ok25 (n : Nat) : FO 25 P25 R25 (F.text_Encode n) := fnOK_of WOf.st (cx25_ok _ n) (d := 8) fun _ => by kernel_rfl
noncomputable def o25 (n : Nat) := oc 25 P25 R25 (F.text_Encode n)
def qh92 : Shape := ⟨[(0, V14), (5, (.sl Y6 (.own 0))), (6, V0)], [], [true], [], [], 0, 0, 0⟩
def qe92_0 : Shape := ⟨[(5, (.sl Y6 (.own 0)))], [], [true], [], [], 0, 0, 0⟩
def qe92_r : Shape := ⟨[(2, (.sl Y6 (.own 0))), (3, V0), (4, V0)], [], [true], [], [], 0, 0, 0⟩
noncomputable def ql92 (X : Type) (n : Nat) : LoopI X := mkLi 8 0 0 0 qh92 [(0, qe92_0)] [qe92_r] n fun m ks => F.ref08_Normal.L5 n (xe qe92_0 ks 0) (xr qe92_r ks) m
noncomputable def cx50 (X : Type) (n : Nat) : Cx X := mkCx tab.get [(50, Tryz.f50)] [o19 n] [(50, 5, [ql92 X n])] [] [] []
theorem qo92 (X : Type) (n : Nat) : LO (cx50 X n) 50 Tryz.f50 0 (ql92 X n) := lok
theorem cx50_ok (X : Type) (n : Nat) : CxOK Tryz.prog SW (cx50 X n) := mx (T1 (J Tryz.func50 (by decide))) (T1 (orcOf_ok (ok19 n))) (T1 (okc (T1 (T1 (qo92 X n))) trivial)) trivial
abbrev P50 : List SV := [V14]
abbrev R50 : RV := .many [V14, V0, V0]
theorem ok50 (n : Nat) : FO 50 P50 R50 (F.ref08_Normal n) := fnOK_of WOf.st (cx50_ok _ n) (d := 8) fun _ => by kernel_rfl
noncomputable def o50 (n : Nat) := oc 50 P50 R50 (F.ref08_Normal n)
def qh93 : Shape := ⟨[(0, V14), (4, V0)], [], [], [], [], 0, 0, 0⟩
def qe93_0 : Shape := ⟨[], [], [], [], [], 0, 0, 0⟩
def qe93_r : Shape := ⟨[(2, V0), (3, V0)], [], [], [], [], 0, 0, 0⟩
noncomputable def ql93 (X : Type) (n : Nat) : LoopI X := mkLi 8 0 0 0 qh93 [(0, qe93_0)] [qe93_r] n fun m ks => F.ref08_Check.L4 n (fun _ => xe qe93_0 ks 0) (xr qe93_r ks) m
noncomputable def cx95 (X : Type) (n : Nat) : Cx X := mkCx tab.get [(95, Tryz.f95)] [o43 n] [(95, 4, [ql93 X n])] [] [] []
theorem qo93 (X : Type) (n : Nat) : LO (cx95 X n) 95 Tryz.f95 0 (ql93 X n) := lok
theorem cx95_ok (X : Type) (n : Nat) : CxOK Tryz.prog SW (cx95 X n) := mx (T1 (J Tryz.func95 (by decide))) (T1 (orcOf_ok (ok43 n))) (T1 (okc (T1 (T1 (qo93 X n))) trivial)) trivial
abbrev P95 : List SV := [V14]
abbrev R95 : RV := .many [V0, V0]
theorem ok95 (n : Nat) : FO 95 P95 R95 (F.ref08_Check n) := fnOK_of WOf.st (cx95_ok _ n) (d := 8) fun _ => by kernel_rfl
noncomputable def o95 (n : Nat) := oc 95 P95 R95 (F.ref08_Check n)
def qh94 : Shape := ⟨[(0, V14), (1, V0), (8, V0)], [], [], [], [], 0, 0, 0⟩
def qe94_0 : Shape := ⟨[], [], [], [], [], 0, 0, 0⟩
def qe94_r : Shape := ⟨[(4, V0), (5, V0)], [], [], [], [], 0, 0, 0⟩
noncomputable def ql94 (X : Type) (n : Nat) : LoopI X := mkLi 8 0 0 0 qh94 [(0, qe94_0)] [qe94_r] n fun m ks => F.ref09_Batch.L7 n (fun _ => xe qe94_0 ks 0) (xr qe94_r ks) m
noncomputable def cx51 (X : Type) (n : Nat) : Cx X := mkCx tab.get [(51, Tryz.f51)] [o44 n, o95 n] [(51, 7, [ql94 X n])] [] [] []
theorem qo94 (X : Type) (n : Nat) : LO (cx51 X n) 51 Tryz.f51 0 (ql94 X n) := lok
theorem cx51_ok (X : Type) (n : Nat) : CxOK Tryz.prog SW (cx51 X n) := mx (T1 (J Tryz.func51 (by decide))) (J (orcOf_ok (ok44 n)) (T1 (orcOf_ok (ok95 n)))) (T1 (okc (T1 (T1 (qo94 X n))) trivial)) trivial
abbrev P51 : List SV := [V14, V0]
abbrev R51 : RV := .many [V0, V0]
theorem ok51 (n : Nat) : FO 51 P51 R51 (F.ref09_Batch n) := fnOK_of WOf.st (cx51_ok _ n) (d := 8) fun _ => by kernel_rfl
noncomputable def o51 (n : Nat) := oc 51 P51 R51 (F.ref09_Batch n)
def qh95 : Shape := ⟨[(1, V0), (7, V14), (10, (.sl .str (.own 0))), (11, V0)], [], [true], [], [], 0, 0, 0⟩
def qe95_0 : Shape := ⟨[(10, (.sl .str (.own 0)))], [], [true], [], [], 0, 0, 0⟩
noncomputable def ql95 (X : Type) (n : Nat) : LoopI X := mkLi 8 0 0 0 qh95 [(0, qe95_0)] [] n fun m ks => F.ref13_Lines.L10 n (xe qe95_0 ks 0) m
noncomputable def cx26 (X : Type) (n : Nat) : Cx X := mkCx tab.get [(26, Tryz.f26)] [o18 n, o21 n, o50 n, o51 n] [(26, 10, [ql95 X n])] [] [] []
theorem qo95 (X : Type) (n : Nat) : LO (cx26 X n) 26 Tryz.f26 0 (ql95 X n) := lok
theorem cx26_ok (X : Type) (n : Nat) : CxOK Tryz.prog SW (cx26 X n) := mx (T1 (J Tryz.func26 (by decide))) (J (orcOf_ok (ok18 n)) (J (orcOf_ok (ok21 n)) (J (orcOf_ok (ok50 n)) (T1 (orcOf_ok (ok51 n)))))) (T1 (okc (T1 (T1 (qo95 X n))) trivial)) trivial
abbrev P26 : List SV := [V14, V0]
abbrev R26 : RV := .many [V9, V0, V0]
theorem ok26 (n : Nat) : FO 26 P26 R26 (F.ref13_Lines n) := fnOK_of WOf.st (cx26_ok _ n) (d := 8) fun _ => by kernel_rfl
noncomputable def o26 (n : Nat) := oc 26 P26 R26 (F.ref13_Lines n)
def qh96 : Shape := ⟨[(7, V9), (8, V0), (9, V0), (10, (.sl .u8 (.own 0))), (11, V0), (12, V0)], [], [true], [], [], 0, 0, 0⟩
def qe96_2 : Shape := ⟨[(7, V9), (8, V0), (9, V0), (10, (.sl .u8 (.own 0))), (11, V0)], [], [true], [], [], 0, 0, 0⟩
noncomputable def ql96 (X : Type) (n : Nat) : LoopI X := mkLi 8 0 0 0 qh96 [(2, qe96_2)] [] n fun m ks => F.ref13_Encode.L7 n (xe qe96_2 ks 2) m
def qh97 : Shape := ⟨[(7, V9), (8, V0), (9, V0), (10, (.sl .u8 (.own 0))), (11, V0)], [], [true], [], [], 0, 0, 0⟩
def qe97_0 : Shape := ⟨[(8, V0), (9, V0), (10, (.sl .u8 (.own 0)))], [], [true], [], [], 0, 0, 0⟩
noncomputable def ql97 (X : Type) (n : Nat) : LoopI X := mkLi 8 0 0 0 qh97 [(0, qe97_0)] [] n fun m ks => F.ref13_Encode.L4 n (xe qe97_0 ks 0) m
noncomputable def cx27 (X : Type) (n : Nat) : Cx X := mkCx tab.get [(27, Tryz.f27)] [o26 n] [(27, 4, [ql97 X n]), (27, 7, [ql96 X n])] [] [] []
theorem qo96 (X : Type) (n : Nat) : LO (cx27 X n) 27 Tryz.f27 1 (ql96 X n) := lok
theorem qo97 (X : Type) (n : Nat) : LO (cx27 X n) 27 Tryz.f27 0 (ql97 X n) := lok
theorem cx27_ok (X : Type) (n : Nat) : CxOK Tryz.prog SW (cx27 X n) := mx (T1 (J Tryz.func27 (by decide))) (T1 (orcOf_ok (ok26 n))) (T1 (okc (J (T1 (qo97 X n)) (T1 (T1 (qo96 X n)))) trivial)) trivial
abbrev P27 : List SV := [V14, V0]
abbrev R27 : RV := .many [V13, V0, V0]
theorem ok27 (n : Nat) : FO 27 P27 R27 (F.ref13_Encode n) := fnOK_of WOf.st (cx27_ok _ n) (d := 8) fun _ => by kernel_rfl
noncomputable def o27 (n : Nat) := oc 27 P27 R27 (F.ref13_Encode n)
def qh98 : Shape := ⟨[(0, V13), (1, V13), (5, V0)], [], [], [], [], 0, 0, 0⟩
def qe98_0 : Shape := ⟨[], [], [], [], [], 0, 0, 0⟩
def qe98_r : Shape := ⟨[(4, .bool)], [], [], [], [], 0, 0, 0⟩
noncomputable def ql98 (X : Type) (n : Nat) : LoopI X := mkLi 8 0 0 0 qh98 [(0, qe98_0)] [qe98_r] n fun m ks => F.law13_same.L4 n (fun _ => xe qe98_0 ks 0) (xr qe98_r ks) m
noncomputable def cx28 (X : Type) (n : Nat) : Cx X := mkCx tab.get [(28, Tryz.f28)] [] [(28, 4, [ql98 X n])] [] [] []
theorem qo98 (X : Type) (n : Nat) : LO (cx28 X n) 28 Tryz.f28 0 (ql98 X n) := lok
theorem cx28_ok (X : Type) (n : Nat) : CxOK Tryz.prog SW (cx28 X n) := mx (T1 (J Tryz.func28 (by decide))) trivial (T1 (okc (T1 (T1 (qo98 X n))) trivial)) trivial
abbrev P28 : List SV := [V13, V13]
abbrev R28 : RV := .one .bool
theorem ok28 (n : Nat) : FO 28 P28 R28 (F.law13_same n) := fnOK_of WOf.st (cx28_ok _ n) (d := 8) fun _ => by kernel_rfl
noncomputable def o28 (n : Nat) := oc 28 P28 R28 (F.law13_same n)
def qh99 : Shape := ⟨[(5, V9), (11, V9), (17, V0)], [], [], [], [], 0, 0, 0⟩
def qe99_0 : Shape := ⟨[], [], [], [], [], 0, 0, 0⟩
def qe99_r : Shape := ⟨[(4, .bool)], [], [], [], [], 0, 0, 0⟩
noncomputable def ql99 (X : Type) (n : Nat) : LoopI X := mkLi 8 0 0 0 qh99 [(0, qe99_0)] [qe99_r] n fun m ks => F.law13_TextEncodes.L10 n (fun _ => xe qe99_0 ks 0) (xr qe99_r ks) m
noncomputable def cx7 (X : Type) (n : Nat) : Cx X := mkCx tab.get [(7, Tryz.f7)] [o9 n, o23 n, o24 n, o25 n, o26 n, o27 n, o28 n] [(7, 10, [ql99 X n])] [] [] []
theorem qo99 (X : Type) (n : Nat) : LO (cx7 X n) 7 Tryz.f7 0 (ql99 X n) := lok
theorem cx7_ok (X : Type) (n : Nat) : CxOK Tryz.prog SW (cx7 X n) := mx (T1 (J Tryz.func7 (by decide))) (J (orcOf_ok (ok9 n)) (J (orcOf_ok (ok23 n)) (J (orcOf_ok (ok24 n)) (J (orcOf_ok (ok25 n)) (J (orcOf_ok (ok26 n)) (J (orcOf_ok (ok27 n)) (T1 (orcOf_ok (ok28 n))))))))) (T1 (okc (T1 (T1 (qo99 X n))) trivial)) trivial
abbrev P7 : List SV := [V14, V0]
abbrev R7 : RV := .one .bool
theorem ok7 (n : Nat) : FO 7 P7 R7 (F.law13_TextEncodes n) := fnOK_of WOf.st (cx7_ok _ n) (d := 8) fun _ => by kernel_rfl
end Go.AM
set_option linter.unusedVariables false
set_option linter.unusedSimpArgs false
namespace Go.AM
def isDig (b : UInt8) : Bool := decide (48 ≤ b.toNat) && decide (b.toNat ≤ 57)
def dv (b : UInt8) : Nat := b.toNat - 48
def valF (a : Nat) (l : List UInt8) : Nat := l.foldl (fun a b => a * 10 + dv b) a
theorem valF_nil (a : Nat) : valF a [] = a := rfl
theorem valF_cons (a : Nat) (b : UInt8) (l : List UInt8) : valF a (b :: l) = valF (a * 10 + dv b) l := by unfold valF; rw [List.foldl_cons]
def val (l : List UInt8) : Nat := valF 0 l
def Digs (l : List UInt8) : Prop := l.all isDig = true
theorem isDig_iff {b : UInt8} : isDig b = true ↔ 48 ≤ b.toNat ∧ b.toNat ≤ 57 := by simp [isDig]
theorem digs_cons {b : UInt8} {l : List UInt8} : Digs (b :: l) ↔ isDig b = true ∧ Digs l := by simp [Digs]
theorem digs_append {l m : List UInt8} : Digs (l ++ m) ↔ Digs l ∧ Digs m := by simp [Digs]
theorem digs_rep (k : Nat) : Digs (List.replicate k 48) := by
  unfold Digs
  rw [List.all_eq_true]
  intro x hx
  rw [List.eq_of_mem_replicate hx]
  rfl
theorem dv_lt {b : UInt8} (h : isDig b = true) : dv b < 10 := by
  have := isDig_iff.1 h
  unfold dv
  omega
theorem u8_ext {a b : UInt8} (h : a.toNat = b.toNat) : a = b := UInt8.toNat_inj.1 h
theorem dv_inj {a b : UInt8} (ha : isDig a = true) (hb : isDig b = true) (h : dv a = dv b) : a = b := by
  have h1 := isDig_iff.1 ha
  have h2 := isDig_iff.1 hb
  unfold dv at h
  exact u8_ext (by omega)
theorem valF_eq (a : Nat) (l : List UInt8) : valF a l = a * 10 ^ l.length + val l := by
  unfold val
  induction l generalizing a with
  | nil => rw [valF_nil, valF_nil]; simp
  | cons b l ih =>
    simp only [valF_cons, List.length_cons]
    rw [ih (a * 10 + dv b), ih (0 * 10 + dv b), Nat.pow_succ, Nat.add_mul, Nat.zero_mul, Nat.zero_add, Nat.mul_assoc, Nat.mul_comm 10, Nat.add_assoc]
theorem val_nil : val [] = 0 := rfl
theorem val_cons (b : UInt8) (l : List UInt8) : val (b :: l) = dv b * 10 ^ l.length + val l := by
  show valF (0 * 10 + dv b) l = _
  rw [valF_eq, Nat.zero_mul, Nat.zero_add]
theorem val_append (l m : List UInt8) : val (l ++ m) = val l * 10 ^ m.length + val m := by
  induction l with
  | nil => simp [val_nil]
  | cons b l ih => rw [List.cons_append, val_cons, val_cons, ih, List.length_append, Nat.pow_add, Nat.add_mul, Nat.mul_assoc, Nat.add_assoc]
theorem val_snoc (l : List UInt8) (b : UInt8) : val (l ++ [b]) = val l * 10 + dv b := by rw [val_append, val_cons]; simp [val_nil]
theorem val_lt {l : List UInt8} (h : Digs l) : val l < 10 ^ l.length := by
  induction l with
  | nil => simp [val_nil]
  | cons b l ih =>
    obtain ⟨h1, h2⟩ := digs_cons.1 h
    have := ih h2
    have hd := dv_lt h1
    rw [val_cons, List.length_cons, Nat.pow_succ, Nat.mul_comm (10 ^ l.length)]
    have h3 : dv b * 10 ^ l.length ≤ 9 * 10 ^ l.length := Nat.mul_le_mul_right _ (by omega)
    omega
theorem dv_48 : dv 48 = 0 := rfl
theorem val_rep (k : Nat) : val (List.replicate k 48) = 0 := by
  induction k with
  | zero => rfl
  | succ k ih => rw [List.replicate_succ, val_cons, ih, dv_48]; simp
theorem val_zeros_left (k : Nat) (l : List UInt8) : val (List.replicate k 48 ++ l) = val l := by rw [val_append, val_rep]; simp
theorem val_zeros_right (k : Nat) (l : List UInt8) : val (l ++ List.replicate k 48) = val l * 10 ^ k := by rw [val_append, val_rep]; simp
theorem val_eq_zero {l : List UInt8} (hd : Digs l) (h : val l = 0) : l = List.replicate l.length 48 := by
  induction l with
  | nil => rfl
  | cons b l ih =>
    obtain ⟨h1, h2⟩ := digs_cons.1 hd
    rw [val_cons] at h
    have hp : 0 < 10 ^ l.length := Nat.pow_pos (by omega)
    have h3 : dv b = 0 := by
      cases hb : dv b with
      | zero => rfl
      | succ k => rw [hb, Nat.succ_mul] at h; omega
    rw [List.length_cons, List.replicate_succ, ← ih h2 (by omega)]
    rw [dv_inj (a := b) (b := 48) h1 rfl h3]
theorem val_inj {l m : List UInt8} (hl : Digs l) (hm : Digs m) (hlen : l.length = m.length) (h : val l = val m) : l = m := by
  induction l generalizing m with
  | nil => cases m with
    | nil => rfl
    | cons => simp at hlen
  | cons b l ih => cases m with
    | nil => simp at hlen
    | cons c m =>
      obtain ⟨h1, h2⟩ := digs_cons.1 hl
      obtain ⟨h3, h4⟩ := digs_cons.1 hm
      have hlen : l.length = m.length := by simpa using hlen
      rw [val_cons, val_cons, hlen] at h
      have b1 := val_lt h2
      have b2 := val_lt h4
      rw [hlen] at b1
      have hp : 0 < 10 ^ m.length := Nat.pow_pos (by omega)
      have e : dv b = dv c := by
        have q1 := congrArg (· / 10 ^ m.length) h
        simp only [Nat.mul_comm (dv b), Nat.mul_comm (dv c), Nat.mul_add_div hp, Nat.div_eq_of_lt b1, Nat.div_eq_of_lt b2] at q1
        omega
      rw [e] at h
      rw [dv_inj h1 h3 e, ih h2 h4 hlen (by omega)]
theorem dig_of (k : Nat) (h : k < 10) : (UInt8.ofNat (48 + k)).toNat = 48 + k := by simp [UInt8.toNat_ofNat']; omega
theorem isDig_of (k : Nat) (h : k < 10) : isDig (UInt8.ofNat (48 + k)) = true := by rw [isDig_iff, dig_of k h]; omega
theorem dv_of (k : Nat) (h : k < 10) : dv (UInt8.ofNat (48 + k)) = k := by unfold dv; rw [dig_of k h]; omega
theorem dd_small {u : Nat} (h : u < 10) : Lib.decDigits u = [UInt8.ofNat (48 + u)] := Lib.decDigits_one h
theorem dd_big {u : Nat} (h : ¬ u < 10) : Lib.decDigits u = Lib.decDigits (u / 10) ++ [UInt8.ofNat (48 + u % 10)] := by rw [Lib.decDigits, dif_neg h]
theorem dd_digs (u : Nat) : Digs (Lib.decDigits u) := by
  induction u using Nat.strongRecOn with
  | _ u ih =>
    by_cases h : u < 10
    · rw [dd_small h, digs_cons]; exact ⟨isDig_of u h, rfl⟩
    · rw [dd_big h, digs_append, digs_cons]
      exact ⟨ih _ (by omega), isDig_of _ (by omega), rfl⟩
theorem dd_val (u : Nat) : val (Lib.decDigits u) = u := by
  induction u using Nat.strongRecOn with
  | _ u ih =>
    by_cases h : u < 10
    · rw [dd_small h, val_cons, dv_of u h]; simp [val_nil]
    · rw [dd_big h, val_snoc, ih _ (by omega), dv_of _ (by omega)]; omega
theorem dd_length (u : Nat) : (Lib.decDigits u).length = Lib.nDigits u := Lib.decDigits_length u
theorem dd_length_le {u k : Nat} (hk : 0 < k) (h : u < 10 ^ k) : (Lib.decDigits u).length ≤ k := by
  rw [dd_length]
  induction k generalizing u with
  | zero => omega
  | succ k ih =>
    by_cases h1 : u < 10
    · rw [Lib.nDigits_small h1]; omega
    · rw [Lib.nDigits_big h1]
      cases k with
      | zero => simp at h; omega
      | succ k =>
        have := ih (u := u / 10) (by omega) (by rw [Nat.pow_succ] at h; omega)
        omega
def trz : List UInt8 → List UInt8
  | [] => []
  | b :: l => if trz l = [] then (if b = 48 then [] else [b]) else b :: trz l
theorem trimR_rep (l : List UInt8) (c : UInt8) : ∃ k, l = Lib.trimRightB l c ++ List.replicate k c ∧ (∀ x, (Lib.trimRightB l c).getLast? = some x → x ≠ c) := by
  have h := List.takeWhile_append_dropWhile (p := fun b : UInt8 => b == c) (l := l.reverse)
  refine ⟨(l.reverse.takeWhile (· == c)).length, ?_, ?_⟩
  · unfold Lib.trimRightB
    have h2 := congrArg List.reverse h
    rw [List.reverse_append, List.reverse_reverse] at h2
    have h3 : (l.reverse.takeWhile (· == c)).reverse = List.replicate (l.reverse.takeWhile (· == c)).length c := by
      rw [List.eq_replicate_iff]
      refine ⟨by simp, fun b hb => ?_⟩
      have := List.all_eq_true.1 (List.all_takeWhile (p := fun b : UInt8 => b == c) (l := l.reverse)) b (List.mem_reverse.1 hb)
      simpa using this
    rw [h3] at h2
    exact h2.symm
  · intro x hx
    unfold Lib.trimRightB at hx
    rw [List.getLast?_reverse] at hx
    have := List.head?_dropWhile_not (p := fun b : UInt8 => b == c) (l := l.reverse)
    rw [hx] at this
    simpa using this
theorem trz_rep (l : List UInt8) : ∃ k, l = trz l ++ List.replicate k 48 ∧ (∀ x, (trz l).getLast? = some x → x ≠ 48) := by
  induction l with
  | nil => exact ⟨0, rfl, by simp [trz]⟩
  | cons b l ih =>
    obtain ⟨k, h1, h2⟩ := ih
    unfold trz
    by_cases h : trz l = []
    · rw [if_pos h]
      rw [h, List.nil_append] at h1
      by_cases hb : b = 48
      · rw [if_pos hb]
        exact ⟨k + 1, by rw [List.replicate_succ, ← h1, hb]; rfl, by simp⟩
      · rw [if_neg hb]
        exact ⟨k, by rw [← h1]; rfl, by simp [hb]⟩
    · rw [if_neg h]
      refine ⟨k, by rw [List.cons_append, ← h1], ?_⟩
      intro x hx
      rw [List.getLast?_cons] at hx
      cases e : (trz l).getLast? with
      | none => simp at e; exact absurd e h
      | some y =>
        rw [e] at hx
        have hy := h2 y e
        simp at hx
        rw [← hx]; exact hy
theorem rep_uniq {a b : List UInt8} {c : UInt8} {i j : Nat} (h : a ++ List.replicate i c = b ++ List.replicate j c) (ha : ∀ x, a.getLast? = some x → x ≠ c) (hb : ∀ x, b.getLast? = some x → x ≠ c) : a = b := by
  induction i generalizing j with
  | zero =>
    cases j with
    | zero => simpa using h
    | succ j =>
      rw [List.replicate_succ', ← List.append_assoc] at h
      simp only [List.replicate_zero, List.append_nil] at h
      exact absurd rfl (ha c (by rw [h]; simp))
  | succ i ih =>
    cases j with
    | zero =>
      rw [List.replicate_succ', ← List.append_assoc] at h
      simp only [List.replicate_zero, List.append_nil] at h
      exact absurd rfl (hb c (by rw [← h]; simp))
    | succ j =>
      rw [List.replicate_succ', List.replicate_succ', ← List.append_assoc, ← List.append_assoc] at h
      exact ih (List.append_inj_left' h rfl)
theorem trimR_trz (l : List UInt8) : Lib.trimRightB l 48 = trz l := by
  obtain ⟨i, h1, h2⟩ := trimR_rep l 48
  obtain ⟨j, h3, h4⟩ := trz_rep l
  exact rep_uniq (h1.symm.trans h3) h2 h4
theorem trz_zeros (l : List UInt8) (k : Nat) : trz (l ++ List.replicate k 48) = trz l := by
  obtain ⟨i, h1, h2⟩ := trz_rep (l ++ List.replicate k 48)
  obtain ⟨j, h3, h4⟩ := trz_rep l
  refine rep_uniq (i := i) (j := j + k) (c := 48) ?_ h2 h4
  rw [← h1]
  conv => lhs; rw [h3]
  rw [List.append_assoc, List.replicate_append_replicate]
theorem trz_le (l : List UInt8) : (trz l).length ≤ l.length := by
  obtain ⟨k, h1, _⟩ := trz_rep l
  have := congrArg List.length h1
  simp at this
  omega
theorem trz_digs {l : List UInt8} (h : Digs l) : Digs (trz l) := by
  obtain ⟨k, h1, _⟩ := trz_rep l
  rw [h1, digs_append] at h
  exact h.1
theorem trz_pad (l : List UInt8) : l = trz l ++ List.replicate (l.length - (trz l).length) 48 := by
  obtain ⟨k, h1, _⟩ := trz_rep l
  have := congrArg List.length h1
  simp at this
  rw [show l.length - (trz l).length = k from by omega]
  exact h1
theorem trz_last {l : List UInt8} {x : UInt8} (h : (trz l).getLast? = some x) : x ≠ 48 := by
  obtain ⟨k, _, h2⟩ := trz_rep l
  exact h2 x h
theorem trz_nil {l : List UInt8} (hd : Digs l) : trz l = [] ↔ val l = 0 := by
  constructor
  · intro h
    have := trz_pad l
    rw [h, List.nil_append] at this
    rw [this, val_rep]
  · intro h
    have := val_eq_zero hd h
    obtain ⟨k, h1, h2⟩ := trz_rep l
    rw [this] at h1 ⊢
    have := trz_zeros [] l.length
    simpa [trz] using this
theorem bl_cons (b c : UInt8) (l m : List UInt8) : Op.bytesLess (b :: l) (c :: m) = (decide (b.toNat < c.toNat) || (decide (b.toNat = c.toNat) && Op.bytesLess l m)) := by
  show (decide (b < c) || ((b == c) && Op.bytesLess l m)) = _
  congr 1
  congr 1
  by_cases h : b = c
  · simp [h]
  · have : ¬ b.toNat = c.toNat := fun hh => h (u8_ext hh)
    simp [h, this]
theorem less_val {l m : List UInt8} (hl : Digs l) (hm : Digs m) (hlen : l.length = m.length) : Op.bytesLess l m = decide (val l < val m) := by
  induction l generalizing m with
  | nil => cases m with
    | nil => rfl
    | cons => simp at hlen
  | cons b l ih => cases m with
    | nil => simp at hlen
    | cons c m =>
      obtain ⟨h1, h2⟩ := digs_cons.1 hl
      obtain ⟨h3, h4⟩ := digs_cons.1 hm
      have hlen : l.length = m.length := by simpa using hlen
      have b1 := val_lt h2
      have b2 := val_lt h4
      rw [hlen] at b1
      have d1 := isDig_iff.1 h1
      have d2 := isDig_iff.1 h3
      rw [bl_cons, val_cons, val_cons, hlen]
      by_cases hn : b.toNat < c.toNat
      · have : (dv b + 1) * 10 ^ m.length ≤ dv c * 10 ^ m.length := Nat.mul_le_mul_right _ (by unfold dv; omega)
        rw [Nat.add_mul] at this
        have h5 : dv b * 10 ^ m.length + val l < dv c * 10 ^ m.length + val m := by omega
        simp [hn, h5]
      · by_cases hn' : c.toNat < b.toNat
        · have : (dv c + 1) * 10 ^ m.length ≤ dv b * 10 ^ m.length := Nat.mul_le_mul_right _ (by unfold dv; omega)
          rw [Nat.add_mul] at this
          have h5 : ¬ dv b * 10 ^ m.length + val l < dv c * 10 ^ m.length + val m := by omega
          have h6 : ¬ b.toNat = c.toNat := by omega
          simp [hn, h5, h6]
        · rw [ih h2 h4 hlen]
          have : b = c := u8_ext (by omega)
          subst this
          simp
end Go.AM
set_option linter.unusedVariables false
set_option linter.unusedSimpArgs false
namespace Go.AM
abbrev DecD := Bool × Int × Int × Unit
abbrev DecR := DecD × Int × Unit
def two64 : Nat := 18446744073709551616
theorem two64_eq : two64 = 18446744073709551616 := rfl
def normR (neg : Bool) (c0 : Nat) (E : Int) : DecR :=
  if E < -18 then ((false, 0, 0, ()), 10, ()) else if c0 * 10 ^ (E - 18).toNat < two64 then ((neg, ((c0 * 10 ^ (E - 18).toNat : Nat) : Int), (if E ≤ 18 then E else 18), ()), 0, ()) else ((false, 0, 0, ()), 10, ())
def zeroD : DecR := ((false, 0, 0, ()), 0, ())
def valR (neg : Bool) (d : List UInt8) (e : Int) : DecR :=
  if val d = 0 then zeroD else normR neg (val (trz d)) (e + ((d.length - (trz d).length : Nat) : Int))
theorem val_trz (d : List UInt8) : val d = val (trz d) * 10 ^ (d.length - (trz d).length) := by
  have := congrArg val (trz_pad d)
  rw [val_zeros_right] at this
  exact this
theorem core_trz {d : List UInt8} (hd : Digs d) (h : val d ≠ 0) : val (trz d) % 10 ≠ 0 := by
  have hne : trz d ≠ [] := fun hh => h ((trz_nil hd).1 hh)
  obtain ⟨x, hx⟩ : ∃ x, (trz d).getLast? = some x := by
    cases e : (trz d).getLast? with
    | none => simp at e; exact absurd e hne
    | some x => exact ⟨x, rfl⟩
  have hx48 := trz_last hx
  obtain ⟨ys, hys⟩ := List.getLast?_eq_some_iff.1 hx
  have hdig := trz_digs hd
  rw [hys] at hdig ⊢
  obtain ⟨_, h2⟩ := digs_append.1 hdig
  obtain ⟨h3, _⟩ := digs_cons.1 h2
  rw [val_snoc]
  have := dv_lt h3
  have h0 : dv x ≠ 0 := fun h0 => hx48 (dv_inj h3 (b := 48) rfl h0)
  omega
theorem core_unique {a b i j : Nat} (ha : a % 10 ≠ 0) (hb : b % 10 ≠ 0) (h : a * 10 ^ i = b * 10 ^ j) : a = b ∧ i = j := by
  induction i generalizing j with
  | zero =>
    cases j with
    | zero => simpa using h
    | succ j => rw [Nat.pow_zero, Nat.mul_one, Nat.pow_succ, ← Nat.mul_assoc] at h; omega
  | succ i ih =>
    cases j with
    | zero => rw [Nat.pow_zero, Nat.mul_one, Nat.pow_succ, ← Nat.mul_assoc] at h; omega
    | succ j =>
      rw [Nat.pow_succ, Nat.pow_succ, ← Nat.mul_assoc, ← Nat.mul_assoc] at h
      obtain ⟨h1, h2⟩ := ih (Nat.eq_of_mul_eq_mul_right (by omega) h)
      exact ⟨h1, by omega⟩
theorem valR_core {d : List UInt8} (hd : Digs d) {c0 z : Nat} (h0 : c0 % 10 ≠ 0) (hv : val d = c0 * 10 ^ z) (neg : Bool) (e : Int) : valR neg d e = normR neg c0 (e + z) := by
  have hne : val d ≠ 0 := by
    rw [hv]
    have := Nat.mul_pos (show 0 < c0 by omega) (Nat.pow_pos (n := z) (show 0 < 10 by omega))
    omega
  unfold valR
  rw [if_neg hne]
  obtain ⟨h1, h2⟩ := core_unique (core_trz hd hne) h0 ((val_trz d).symm.trans hv)
  rw [h1, h2]
theorem ten_split (c : Nat) (h : 0 < c) : ∃ c0 z, c = c0 * 10 ^ z ∧ c0 % 10 ≠ 0 := by
  induction c using Nat.strongRecOn with
  | _ c ih =>
    by_cases h1 : c % 10 = 0
    · obtain ⟨c0, z, h2, h3⟩ := ih (c / 10) (by omega) (by omega)
      exact ⟨c0, z + 1, by rw [Nat.pow_succ, ← Nat.mul_assoc, ← h2]; omega, h3⟩
    · exact ⟨c, 0, by simp, h1⟩
theorem times_eq (n : Nat) (c d : Nat) (hc : c < two64) (hd : d < two64) : F.dec_times n (c : Int) (d : Int) = some ((((c * 10 + d) % two64 : Nat) : Int), decide (c * 10 + d < two64), ()) := by
  unfold F.dec_times O.mul64
  rw [two64_eq] at *
  rw [bif_pos (by omega), some_bind']
  unfold O.add64
  rw [show (c : Int).toNat = c from rfl, show (10 : Int).toNat = 10 from rfl]
  dsimp only
  rw [bif_pos (by omega), some_bind']
  simp only [Int.toNat_natCast, show (0 : Int).toNat = 0 from rfl, Nat.add_zero]
  by_cases h : c * 10 < 18446744073709551616
  · have e1 : ((((c * 10 / 18446744073709551616 : Nat) : Int)) == 0) = true := by simp; omega
    rw [e1, cond_true]
    have e2 : c * 10 % 18446744073709551616 = c * 10 := Nat.mod_eq_of_lt h
    rw [e2]
    congr 2
    congr 1
    by_cases h2 : c * 10 + d < 18446744073709551616
    · have : (c * 10 + d) / 18446744073709551616 = 0 := Nat.div_eq_of_lt h2
      simp [h2, this]
    · have : ¬ (c * 10 + d) / 18446744073709551616 = 0 := by omega
      have e : ((((c * 10 + d) / 18446744073709551616 : Nat) : Int) == 0) = false := by simp; omega
      rw [e]; simp [h2]
  · have e1 : ((((c * 10 / 18446744073709551616 : Nat) : Int)) == 0) = false := by simp; omega
    rw [e1, cond_false]
    have : ¬ c * 10 + d < 18446744073709551616 := by omega
    simp only [this, decide_false]
    congr 2
    omega
theorem strip_norm (n : Nat) (X : Type) (k0 : Bool → Int → Int → Bool → Int → Int → Option X) (neg b : Bool) (x y : Int) (c0 : Nat) (h0 : c0 % 10 ≠ 0) : ∀ (z m : Nat) (e : Int), c0 * 10 ^ z < two64 → -9223372036854775808 ≤ e → e + z ≤ 9223372036854775807 → z < m →
    ∃ j, j ≤ z ∧ F.dec_Normal.L3 n k0 m neg ((c0 * 10 ^ z : Nat) : Int) e b x y = k0 neg ((c0 * 10 ^ j : Nat) : Int) (e + z - j) b x y ∧ (j = 0 ∨ 18 ≤ e + z - j) ∧ (e + z - j ≤ 18 ∨ j = z) := by
  intro z
  induction z with
  | zero =>
    intro m e hc he1 he2 hm
    obtain ⟨m, rfl⟩ : ∃ q, m = q + 1 := ⟨m - 1, by omega⟩
    refine ⟨0, Nat.le_refl _, ?_, Or.inl rfl, Or.inr rfl⟩
    show F.dec_Normal.L3.step n _ k0 _ _ _ _ _ _ = _
    unfold F.dec_Normal.L3.step
    have e1 : ((((c0 * 10 ^ 0 : Nat) : Int).tmod 10) == 0) = false := by
      rw [Nat.pow_zero, Nat.mul_one]
      have : ¬ ((c0 : Int).tmod 10) = 0 := by
        rw [show ((c0 : Int).tmod 10) = ((c0 % 10 : Nat) : Int) from rfl]; omega
      simpa using this
    rw [e1, cond_false]
    congr 1
    omega
  | succ z ih =>
    intro m e hc he1 he2 hm
    obtain ⟨m, rfl⟩ : ∃ q, m = q + 1 := ⟨m - 1, by omega⟩
    have hstep : F.dec_Normal.L3 n k0 (m + 1) neg ((c0 * 10 ^ (z + 1) : Nat) : Int) e b x y = F.dec_Normal.L3.step n (F.dec_Normal.L3 n k0 m) k0 neg ((c0 * 10 ^ (z + 1) : Nat) : Int) e b x y := rfl
    have hmul : c0 * 10 ^ (z + 1) = c0 * 10 ^ z * 10 := by rw [Nat.pow_succ, Nat.mul_assoc]
    have e1 : ((((c0 * 10 ^ (z + 1) : Nat) : Int).tmod 10) == 0) = true := by
      have : ((c0 * 10 ^ (z + 1) : Nat) : Int).tmod 10 = 0 := by
        rw [show (((c0 * 10 ^ (z + 1) : Nat) : Int).tmod 10) = ((c0 * 10 ^ (z + 1) % 10 : Nat) : Int) from rfl]; omega
      simpa using this
    have e2 : ((c0 * 10 ^ (z + 1) : Nat) : Int).tdiv 10 = ((c0 * 10 ^ z : Nat) : Int) := by
      rw [show (((c0 * 10 ^ (z + 1) : Nat) : Int).tdiv 10) = ((c0 * 10 ^ (z + 1) / 10 : Nat) : Int) from rfl]; omega
    rw [hstep]
    unfold F.dec_Normal.L3.step
    rw [e1, cond_true]
    by_cases h18 : e < 18
    · rw [bif_pos h18, e2, IntWalk.u64_in _ (by rw [two64_eq] at hc; omega), wrap_in (by omega)]
      obtain ⟨j, j1, j2, j3, j4⟩ := ih m (e + 1) (by omega) (by omega) (by omega) (by omega)
      refine ⟨j, by omega, ?_, ?_, ?_⟩
      · rw [j2]
        congr 1
        omega
      · rcases j3 with j3 | j3
        · exact Or.inl j3
        · exact Or.inr (by omega)
      · rcases j4 with j4 | j4
        · exact Or.inl (by omega)
        · exact Or.inl (by omega)
    · rw [bif_neg h18]
      refine ⟨z + 1, Nat.le_refl _, ?_, Or.inr (by omega), Or.inr rfl⟩
      congr 1
      omega
theorem grow_norm (n : Nat) (X : Type) (k2 : Bool → Int → Int → Bool → Int → Int → Option X) (K : Int → Bool → Int → Int → Option X) (neg b : Bool) (x y : Int) : ∀ (m c d : Nat), 0 < c → c < two64 → two64 ≤ c * 10 ^ m → 18 + (d : Int) ≤ 9223372036854775807 →
    F.dec_Normal.L5 n k2 (fun q _ _ _ u v w => K q u v w) (m + 1) neg (c : Int) (18 + (d : Int)) b x y = if c * 10 ^ d < two64 then k2 neg ((c * 10 ^ d : Nat) : Int) 18 b x y else K 10 false 0 0 := by
  intro m
  induction m with
  | zero => intro c d h1 h2 h3; rw [Nat.pow_zero, Nat.mul_one] at h3; omega
  | succ m ih =>
    intro c d h1 h2 h3 h4
    have hstep : F.dec_Normal.L5 n k2 (fun q _ _ _ u v w => K q u v w) (m + 1 + 1) neg (c : Int) (18 + (d : Int)) b x y = F.dec_Normal.L5.step n (F.dec_Normal.L5 n k2 (fun q _ _ _ u v w => K q u v w) (m + 1)) k2 (fun q _ _ _ u v w => K q u v w) neg (c : Int) (18 + (d : Int)) b x y := rfl
    rw [hstep]
    unfold F.dec_Normal.L5.step
    cases d with
    | zero =>
      rw [bif_neg (by omega), Nat.pow_zero, Nat.mul_one, if_pos h2]
      rfl
    | succ d =>
      rw [bif_pos (by omega), show (0 : Int) = ((0 : Nat) : Int) from rfl, times_eq n c 0 h2 (by decide), some_bind']
      have hp : c * 10 ≤ c * 10 ^ (d + 1) := by
        rw [Nat.pow_succ, ← Nat.mul_assoc]
        have : 0 < 10 ^ d := Nat.pow_pos (by omega)
        have := Nat.le_mul_of_pos_right c this
        omega
      by_cases hf : c * 10 + 0 < two64
      · simp only [hf, decide_true, Bool.not_true, cond_false]
        rw [wrap_in (by omega), show (18 + ((d + 1 : Nat) : Int) - 1) = 18 + (d : Int) from by omega, Nat.mod_eq_of_lt hf]
        have := ih (c * 10 + 0) d (by omega) hf (by rw [Nat.pow_succ] at h3; rw [Nat.add_zero, Nat.mul_assoc, Nat.mul_comm 10]; exact h3) (by omega)
        rw [show ((0 : Nat) : Int) = (0 : Int) from rfl] at *
        rw [this, Nat.add_zero, Nat.mul_assoc, Nat.mul_comm 10, ← Nat.pow_succ]
      · have : ¬ c * 10 ^ (d + 1) < two64 := by omega
        simp only [hf, decide_false, Bool.not_false, cond_true]
        rw [if_neg this]
theorem normal_core (n : Nat) (hn : 100 ≤ n) (neg : Bool) (c0 z : Nat) (h0 : c0 % 10 ≠ 0) (hc : c0 * 10 ^ z < two64) (e : Int) (he : -9223372036854775808 ≤ e ∧ e ≤ 9223372036854775807) :
    F.dec_Normal n (neg, ((c0 * 10 ^ z : Nat) : Int), e, ()) = some (normR neg c0 (e + z)) := by
  have hz : z ≤ 20 := by
    refine Classical.byContradiction fun hh => ?_
    have h1 : 10 ^ 20 ≤ 10 ^ z := Nat.pow_le_pow_right (by omega) (by omega)
    have h2 := Nat.le_mul_of_pos_left (10 ^ z) (show 0 < c0 by omega)
    rw [two64_eq] at hc
    omega
  have hpos : 0 < c0 * 10 ^ z := Nat.mul_pos (by omega) (Nat.pow_pos (by omega))
  unfold F.dec_Normal
  have e0 : (((c0 * 10 ^ z : Nat) : Int) == 0) = false := by
    have : ¬ ((c0 * 10 ^ z : Nat) : Int) = 0 := by omega
    simpa using this
  simp only [e0, cond_false]
  by_cases hbig : 9223372036854775807 < e + z
  ·
    have h18 : ¬ e < 18 := by omega
    obtain ⟨m, rfl⟩ : ∃ q, n = q + 1 := ⟨n - 1, by omega⟩
    have hs : ∀ (k0 : Bool → Int → Int → Bool → Int → Int → Option DecR), F.dec_Normal.L3 (m + 1) k0 (m + 1) neg ((c0 * 10 ^ z : Nat) : Int) e false 0 0 = k0 neg ((c0 * 10 ^ z : Nat) : Int) e false 0 0 := by
      intro k0
      show F.dec_Normal.L3.step (m + 1) (F.dec_Normal.L3 (m + 1) k0 m) k0 _ _ _ _ _ _ = _
      unfold F.dec_Normal.L3.step
      rw [bif_neg h18]
      cases (((c0 * 10 ^ z : Nat) : Int).tmod 10 == 0) <;> rfl
    rw [hs]
    obtain ⟨d, hd⟩ : ∃ d : Nat, e = 18 + (d : Int) := ⟨(e - 18).toNat, by omega⟩
    have hfuel : two64 ≤ c0 * 10 ^ z * 10 ^ m := by
      have h1 : 10 ^ 20 ≤ 10 ^ m := Nat.pow_le_pow_right (by omega) (by omega)
      have h2 := Nat.le_mul_of_pos_left (10 ^ m) hpos
      rw [two64_eq]
      omega
    rw [hd, grow_norm (m + 1) _ _ (fun q u v w => some ((u, v, w, ()), q, ())) neg false 0 0 m _ d hpos hc hfuel (by omega)]
    have hnot : ∀ w, 20 ≤ w → ¬ c0 * 10 ^ w < two64 := by
      intro w hw
      have h1 : 10 ^ 20 ≤ 10 ^ w := Nat.pow_le_pow_right (by omega) hw
      have h2 := Nat.le_mul_of_pos_left (10 ^ w) (show 0 < c0 by omega)
      rw [two64_eq]
      omega
    unfold normR
    rw [if_neg (show ¬ 18 + (d : Int) + z < -18 by omega), if_neg (by rw [Nat.mul_assoc, ← Nat.pow_add]; exact hnot _ (by omega)), if_neg (hnot _ (by omega))]
  · obtain ⟨j, j1, j2, j3, j4⟩ := strip_norm n DecR (fun e1_b0_0 e1_b0_1 e1_b0_2 e1_b1_0 e1_b1_1 e1_b1_2 =>
        F.dec_Normal.L5 n
          (fun e3_b0_0 e3_b0_1 e3_b0_2 e3_b1_0 e3_b1_1 e3_b1_2 =>
            bif decide (e3_b0_2 < (-18 : Int)) then
              some (((false, (0 : Int), (0 : Int), ()), (10 : Int), ()))
            else
              some (((e3_b0_0, e3_b0_1, e3_b0_2, ()), (0 : Int), ())))
          (fun e4_3 e4_b0_0 e4_b0_1 e4_b0_2 e4_b1_0 e4_b1_1 e4_b1_2 =>
            some (((e4_b1_0, e4_b1_1, e4_b1_2, ()), e4_3, ()))) n e1_b0_0 e1_b0_1 e1_b0_2 e1_b1_0 e1_b1_1 e1_b1_2) neg false 0 0 c0 h0 z n e hc he.1 (by omega) (by omega)
    refine j2.trans ?_
    have hcj : c0 * 10 ^ j < two64 := by
      have h1 : 10 ^ j ≤ 10 ^ z := Nat.pow_le_pow_right (by omega) j1
      have := Nat.mul_le_mul_left c0 h1
      omega
    have hposj : 0 < c0 * 10 ^ j := Nat.mul_pos (by omega) (Nat.pow_pos (by omega))
    obtain ⟨m, rfl⟩ : ∃ q, n = q + 1 := ⟨n - 1, by omega⟩
    by_cases hE : 18 ≤ e + z - j
    · obtain ⟨d, hd⟩ : ∃ d : Nat, e + z - j = 18 + (d : Int) := ⟨(e + z - j - 18).toNat, by omega⟩
      have hfuel : two64 ≤ c0 * 10 ^ j * 10 ^ m := by
        have h1 : 10 ^ 20 ≤ 10 ^ m := Nat.pow_le_pow_right (by omega) (by omega)
        have h2 := Nat.le_mul_of_pos_left (10 ^ m) hposj
        rw [two64_eq]
        omega
      show F.dec_Normal.L5 (m + 1) _ _ (m + 1) neg _ (e + z - j) false 0 0 = _
      rw [hd, grow_norm (m + 1) _ _ (fun q u v w => some ((u, v, w, ()), q, ())) neg false 0 0 m _ d hposj hcj hfuel (by omega)]
      unfold normR
      rw [if_neg (show ¬ e + z < -18 by omega), Nat.mul_assoc, ← Nat.pow_add, show j + d = (e + z - 18).toNat from by omega]
      by_cases hf : c0 * 10 ^ (e + z - 18).toNat < two64
      · rw [if_pos hf, if_pos hf, bif_neg (by omega)]
        congr 3
        by_cases hh : e + z ≤ 18
        · rw [if_pos hh, show e + (z : Int) = 18 from by omega]
        · rw [if_neg hh]
      · rw [if_neg hf, if_neg hf]
    · have hj0 : j = 0 := by omega
      subst hj0
      have hlow : ∀ (k2 : Bool → Int → Int → Bool → Int → Int → Option DecR) (kr : Int → Bool → Int → Int → Bool → Int → Int → Option DecR) (c : Int) (E : Int), ¬ E > 18 → F.dec_Normal.L5 (m + 1) k2 kr (m + 1) neg c E false 0 0 = k2 neg c E false 0 0 := by
        intro k2 kr c E hE
        show F.dec_Normal.L5.step (m + 1) (F.dec_Normal.L5 (m + 1) k2 kr m) k2 kr neg c E false 0 0 = _
        unfold F.dec_Normal.L5.step
        rw [bif_neg hE]
      rw [hlow _ _ _ _ (by omega)]
      unfold normR
      rw [Nat.pow_zero, Nat.mul_one, show (e + (z : Int) - 18).toNat = 0 from by omega, Nat.pow_zero, Nat.mul_one, show (e + (z : Int) - ((0 : Nat) : Int)) = e + z from by omega]
      by_cases h18 : e + z < -18
      · rw [bif_pos h18, if_pos h18]
      · rw [bif_neg h18, if_neg h18, if_pos (by rw [Nat.pow_zero, Nat.mul_one] at hcj; exact hcj), if_pos (by omega)]
theorem normal_eq (n : Nat) (hn : 100 ≤ n) (neg : Bool) (c : Nat) (hc : c < two64) (e : Int) (he : -9223372036854775808 ≤ e ∧ e ≤ 9223372036854775807) : F.dec_Normal n (neg, (c : Int), e, ()) = some (valR neg (Lib.decDigits c) e) := by
  by_cases h : c = 0
  · subst h
    unfold valR
    rw [if_pos (dd_val 0)]
    rfl
  · obtain ⟨c0, z, h1, h2⟩ := ten_split c (by omega)
    rw [valR_core (dd_digs c) h2 (by rw [dd_val]; exact h1)]
    rw [h1] at hc ⊢
    exact normal_core n hn neg c0 z h2 hc e he
end Go.AM
set_option linter.unusedVariables false
set_option linter.unusedSimpArgs false
namespace Go.AM
def lz (d : List UInt8) : List UInt8 := d.dropWhile (· == 48)
theorem lz_rep (d : List UInt8) : d = List.replicate (d.length - (lz d).length) 48 ++ lz d := by
  induction d with
  | nil => rfl
  | cons b d ih =>
    unfold lz at ih ⊢
    by_cases h : b = 48
    · subst h
      have e : ((48 : UInt8) :: d).dropWhile (· == 48) = d.dropWhile (· == 48) := by simp [List.dropWhile_cons]
      have hl : (d.dropWhile (· == 48)).length ≤ d.length := (List.dropWhile_sublist _).length_le
      rw [e, List.length_cons, show d.length + 1 - (d.dropWhile (· == 48)).length = (d.length - (d.dropWhile (· == 48)).length) + 1 from by omega, List.replicate_succ, List.cons_append, ← ih]
    · have e : (b :: d).dropWhile (· == 48) = b :: d := by simp [List.dropWhile_cons, h]
      rw [e]
      simp
theorem lz_head {d : List UInt8} {x : UInt8} (h : (lz d).head? = some x) : x ≠ 48 := by
  have := List.head?_dropWhile_not (p := fun b : UInt8 => b == 48) (l := d)
  unfold lz at h
  rw [h] at this
  simpa using this
theorem lz_val (d : List UInt8) : val (lz d) = val d := by
  conv => rhs; rw [lz_rep d]
  rw [val_zeros_left]
theorem lz_digs {d : List UInt8} (h : Digs d) : Digs (lz d) := by
  rw [lz_rep d, digs_append] at h
  exact h.2
theorem lz_le (d : List UInt8) : (lz d).length ≤ d.length := (List.dropWhile_sublist _).length_le
theorem u8_48 (x : UInt8) : ((x.toNat : Int) == 48) = decide (x = 48) := by
  by_cases h : x = 48
  · subst h; rfl
  · have : ¬ (x.toNat : Int) = 48 := fun hh => h (u8_ext (by simp; omega))
    rw [beq_eq_false_iff_ne.2 this, decide_eq_false h]
theorem last_rep (a : List UInt8) (j : Nat) : idx (a ++ List.replicate (j + 1) (48 : UInt8)) (((a ++ List.replicate (j + 1) (48 : UInt8)).length : Int) - 1) = some 48 ∧ sub (a ++ List.replicate (j + 1) (48 : UInt8)) 0 (((a ++ List.replicate (j + 1) (48 : UInt8)).length : Int) - 1) = some (a ++ List.replicate j 48) := by
  rw [List.replicate_succ', ← List.append_assoc]
  have hlen : (a ++ List.replicate j (48 : UInt8) ++ [48]).length = a.length + j + 1 := by simp; omega
  refine ⟨?_, ?_⟩
  · rw [idx_pred (by omega), ← List.getLast?_eq_getElem?]; simp
  · have := sub_nat (a ++ List.replicate j (48 : UInt8) ++ [48]) 0 (a.length + j) (by omega) (by rw [hlen]; omega)
    rw [hlen, show (((a.length + j + 1 : Nat) : Int) - 1) = ((a.length + j : Nat) : Int) from by omega]
    refine this.trans ?_
    rw [List.drop_zero, List.take_append_of_le_length (by simp), List.take_of_length_le (by simp)]
theorem last_not {a : List UInt8} (ha : a ≠ []) (hl : ∀ x, a.getLast? = some x → x ≠ 48) : ∃ x, idx a ((a.length : Int) - 1) = some x ∧ x ≠ 48 := by
  have hp : 0 < a.length := List.length_pos_iff.2 ha
  rw [idx_pred hp, ← List.getLast?_eq_getElem?]
  cases e : a.getLast? with
  | none => simp at e; exact absurd e ha
  | some x => exact ⟨x, rfl, hl x e⟩
theorem val_ge {d : List UInt8} (hd : Digs d) (hne : d ≠ []) (hh : ∀ x, d.head? = some x → x ≠ 48) : 10 ^ (d.length - 1) ≤ val d := by
  cases d with
  | nil => exact absurd rfl hne
  | cons b d =>
    obtain ⟨h1, h2⟩ := digs_cons.1 hd
    have h0 : dv b ≠ 0 := fun h0 => hh b rfl (dv_inj h1 (b := 48) rfl h0)
    rw [val_cons]
    have := Nat.le_mul_of_pos_left (10 ^ d.length) (show 0 < dv b by omega)
    simp
    omega
end Go.AM
set_option linter.unusedVariables false
set_option linter.unusedSimpArgs false
namespace Go.AM
def p0 (s : List UInt8) : Nat := if s.head? = some 45 then 1 else 0
end Go.AM
set_option linter.unusedVariables false
set_option linter.unusedSimpArgs false
namespace Go.AM
theorem valR_code (neg : Bool) (d : List UInt8) (e : Int) : (valR neg d e).2.1 = 0 ∨ (valR neg d e).2.1 = 10 ∧ (valR neg d e).1 = (false, 0, 0, ()) := by
  unfold valR zeroD normR
  by_cases h : val d = 0
  · rw [if_pos h]; exact Or.inl rfl
  · rw [if_neg h]
    split
    · exact Or.inr ⟨rfl, rfl⟩
    · split
      · exact Or.inl rfl
      · exact Or.inr ⟨rfl, rfl⟩
end Go.AM
set_option linter.unusedVariables false
set_option linter.unusedSimpArgs false
namespace Go.AM
end Go.AM
set_option linter.unusedVariables false
set_option linter.unusedSimpArgs false
namespace Go.AM
def checkR (neg : Bool) (c : Nat) (e : Int) : Int :=
  if c ≠ 0 ∧ (e < -18 ∨ e > 18) then 10 else if (valR neg (Lib.decDigits c) e).2.1 = 0 ∧ (valR neg (Lib.decDigits c) e).1 = (neg, (c : Int), e, ()) then 0 else 21
theorem decD_beq (a b : DecD) : ((a.1 == b.1) && ((a.2.1 == b.2.1) && (a.2.2.1 == b.2.2.1))) = decide (a = b) := by
  obtain ⟨a1, a2, a3, _⟩ := a
  obtain ⟨b1, b2, b3, _⟩ := b
  by_cases h : (((a1, a2, a3, ()) : DecD) = (b1, b2, b3, ()))
  · have : a1 = b1 ∧ a2 = b2 ∧ a3 = b3 := by simpa using h
    rw [decide_eq_true h]
    simp [this]
  · rw [decide_eq_false h]
    have : ¬ (a1 = b1 ∧ a2 = b2 ∧ a3 = b3) := fun hh => h (by simp [hh])
    simp only [Bool.and_eq_false_iff, beq_eq_false_iff_ne]
    by_cases g1 : a1 = b1
    · by_cases g2 : a2 = b2
      · exact Or.inr (Or.inr fun g3 => this ⟨g1, g2, g3⟩)
      · exact Or.inr (Or.inl g2)
    · exact Or.inl g1
theorem check_tail (neg : Bool) (c : Nat) (e : Int) (r : DecR) (hr : r = valR neg (Lib.decDigits c) e) :
    (bif !(r.2.1 == (0 : Int)) then some ((21 : Int)) else bif !((r.1.1 == neg) && ((r.1.2.1 == (c : Int)) && (r.1.2.2.1 == e))) then some ((21 : Int)) else some ((0 : Int)))
     = some (if (valR neg (Lib.decDigits c) e).2.1 = 0 ∧ (valR neg (Lib.decDigits c) e).1 = (neg, (c : Int), e, ()) then 0 else 21) := by
  subst hr
  have hb := decD_beq (valR neg (Lib.decDigits c) e).1 (neg, (c : Int), e, ())
  simp only at hb
  rw [hb]
  by_cases h1 : (valR neg (Lib.decDigits c) e).2.1 = 0
  · have e1 : ((valR neg (Lib.decDigits c) e).2.1 == 0) = true := by simp [h1]
    rw [e1]
    by_cases h2 : (valR neg (Lib.decDigits c) e).1 = (neg, (c : Int), e, ())
    · rw [decide_eq_true h2, if_pos ⟨h1, h2⟩]; rfl
    · rw [decide_eq_false h2, if_neg (fun h => h2 h.2)]; rfl
  · have e1 : ((valR neg (Lib.decDigits c) e).2.1 == 0) = false := by simpa using h1
    rw [e1, if_neg (fun h => h1 h.1)]; rfl
theorem check_eq (n : Nat) (hn : 100 ≤ n) (neg : Bool) (c : Nat) (hc : c < two64) (e : Int) (he : -9223372036854775808 ≤ e ∧ e ≤ 9223372036854775807) : F.dec_Check n (neg, (c : Int), e, ()) = some (checkR neg c e) := by
  unfold F.dec_Check checkR
  simp only [normal_eq n hn neg c hc e he, some_bind']
  have T := check_tail neg c e _ rfl
  by_cases h0 : c = 0
  · have e0 : (((c : Int)) == 0) = true := by simp [h0]
    rw [e0, if_neg (fun h => h.1 h0)]
    exact T
  · have e0 : (((c : Int)) == 0) = false := by simpa using h0
    rw [e0]
    simp only [Bool.not_false, cond_true]
    by_cases h1 : e < -18
    · rw [bif_pos h1, if_pos ⟨h0, Or.inl h1⟩]
    · rw [bif_neg h1]
      by_cases h2 : e > 18
      · rw [bif_pos h2, if_pos ⟨h0, Or.inr h2⟩]
      · rw [bif_neg h2, if_neg (by omega)]
        exact T
theorem dd_len64 {c : Nat} (hc : c < two64) : (Lib.decDigits c).length ≤ 20 := by rw [dd_length]; exact Lib.nDigits_le20 c hc
theorem check_zero {neg : Bool} {c : Nat} {e : Int} (h : checkR neg c e = 0) : valR neg (Lib.decDigits c) e = ((neg, (c : Int), e, ()), 0, ()) ∧ -18 ≤ e ∧ e ≤ 18 := by
  unfold checkR at h
  by_cases h1 : c ≠ 0 ∧ (e < -18 ∨ e > 18)
  · rw [if_pos h1] at h; cases h
  rw [if_neg h1] at h
  by_cases h2 : (valR neg (Lib.decDigits c) e).2.1 = 0 ∧ (valR neg (Lib.decDigits c) e).1 = (neg, (c : Int), e, ())
  · have h3 : valR neg (Lib.decDigits c) e = ((neg, (c : Int), e, ()), 0, ()) := by
      obtain ⟨a, b⟩ := h2
      generalize valR neg (Lib.decDigits c) e = r at a b ⊢
      obtain ⟨r1, r2, _⟩ := r
      simp only at a b
      rw [a, b]
    refine ⟨h3, ?_⟩
    by_cases h0 : c = 0
    · subst h0
      unfold valR at h3
      rw [if_pos (dd_val 0)] at h3
      have : (0 : Int) = e := congrArg (fun r : DecR => r.1.2.2.1) h3
      omega
    · omega
  · rw [if_neg h2] at h; cases h
def sgn (neg : Bool) : List UInt8 := if neg then [45] else []
def wideW (c : Nat) (e : Int) : List UInt8 := List.replicate (1 - e - (Lib.decDigits c).length).toNat 48 ++ Lib.decDigits c
def textD (neg : Bool) (c : Nat) (e : Int) : List UInt8 :=
  if 0 ≤ e then sgn neg ++ (Lib.decDigits c ++ List.replicate e.toNat 48)
  else sgn neg ++ ((wideW c e).take ((wideW c e).length - e.natAbs) ++ [46] ++ (wideW c e).drop ((wideW c e).length - e.natAbs))
theorem repeatL_one (k : Nat) : Lib.repeatL [48] k = List.replicate k 48 := by
  induction k with
  | zero => rfl
  | succ k ih => rw [Lib.repeatL, ih]; rfl
theorem repeat_eq (n : Nat) {k : Int} (h : 0 ≤ k ∧ k ≤ 100000) : O.repeat' n [48] k = some (List.replicate k.toNat 48) := by
  unfold O.repeat'
  have hb : (decide (0 ≤ k) && Nat.ble k.toNat big47 && Nat.ble (([48] : List UInt8).length * k.toNat) big47) = true := by
    rw [Bool.and_eq_true, Bool.and_eq_true, Nat.ble_eq, Nat.ble_eq]
    unfold big47
    simp only [List.length_cons, List.length_nil]
    refine ⟨⟨by simp; omega, by omega⟩, by omega⟩
  rw [hb, cond_true, repeatL_one]
theorem wideW_len (c : Nat) (hc : c < two64) (e : Int) (he : -18 ≤ e ∧ e < 0) : e.natAbs < (wideW c e).length ∧ (wideW c e).length ≤ 40 ∧ Digs (wideW c e) := by
  have := dd_len64 hc
  unfold wideW
  refine ⟨?_, ?_, digs_append.2 ⟨digs_rep _, dd_digs c⟩⟩
  · simp; omega
  · simp; omega
theorem text_dec (n : Nat) (hn : 200000 ≤ n) (neg : Bool) (c : Nat) (hc : c < two64) (e : Int) (he : -9223372036854775808 ≤ e ∧ e ≤ 9223372036854775807) : F.dec_Text n (neg, (c : Int), e, ()) = some (if checkR neg c e = 0 then (textD neg c e, 0, ()) else ([], checkR neg c e, ())) := by
  unfold F.dec_Text
  simp only [check_eq n (by omega) neg c hc e he, some_bind']
  by_cases h : checkR neg c e = 0
  · obtain ⟨h1, h2, h3⟩ := check_zero h
    have hl := dd_len64 hc
    rw [h, if_pos rfl]
    have e0 : (!((0 : Int) == 0)) = false := rfl
    rw [e0, cond_false]
    have hf : O.futoa n (c : Int) 10 = some (Lib.decDigits c) := by
      unfold O.futoa
      have : (decide ((0 : Int) ≤ (c : Int)) && decide ((c : Int) < 18446744073709551616) && decide ((10 : Int) = 10)) = true := by
        rw [two64_eq] at hc
        simp; omega
      rw [this]; rfl
    rw [hf, some_bind']
    unfold textD
    by_cases hE : 0 ≤ e
    · rw [bif_pos hE, if_pos hE, repeat_eq n (by omega), some_bind', bif_pos (by rw [strMax_eq]; simp; omega)]
      cases neg
      · rfl
      · rw [cond_true, bif_pos (by rw [strMax_eq]; simp; omega)]
        rfl
    · obtain ⟨w1, w2, w3⟩ := wideW_len c hc e (by omega)
      have hmax : (if (IntKind.wrap .i64 ((IntKind.wrap .i64 ((1 : Int) - e)) - ((Lib.decDigits c).length : Int))) > (0 : Int) then (IntKind.wrap .i64 ((IntKind.wrap .i64 ((1 : Int) - e)) - ((Lib.decDigits c).length : Int))) else (0 : Int)) = (((1 - e - (Lib.decDigits c).length).toNat : Nat) : Int) := by
        rw [wrap_in (x := (1 : Int) - e) (by omega), wrap_in (by omega)]
        split <;> omega
      have hwl : (List.replicate (1 - e - (Lib.decDigits c).length).toNat (48 : UInt8)).length + (Lib.decDigits c).length = (wideW c e).length := by unfold wideW; simp
      rw [bif_neg (by omega), if_neg hE, hmax, repeat_eq n (by omega), some_bind', Int.toNat_natCast, bif_pos (by rw [strMax_eq]; omega)]
      have hww : List.replicate (1 - e - (Lib.decDigits c).length).toNat (48 : UInt8) ++ Lib.decDigits c = wideW c e := rfl
      rw [hww]
      generalize wideW c e = w at w1 w2 w3
      have hat : IntKind.wrap .i64 ((w.length : Int) + e) = ((w.length - e.natAbs : Nat) : Int) := by rw [wrap_in (by omega)]; omega
      rw [hat]
      have s1 : sub w 0 ((w.length - e.natAbs : Nat) : Int) = some (w.take (w.length - e.natAbs)) := by
        have := sub_nat w 0 (w.length - e.natAbs) (by omega) (by omega)
        rw [List.drop_zero] at this
        exact this
      have s2 : sub w ((w.length - e.natAbs : Nat) : Int) (w.length : Int) = some (w.drop (w.length - e.natAbs)) := by
        have := sub_nat w (w.length - e.natAbs) w.length (by omega) (Nat.le_refl _)
        rw [List.take_length] at this
        exact this
      rw [s1, some_bind', bif_pos (by rw [strMax_eq]; simp; omega), s2, some_bind', bif_pos (by rw [strMax_eq]; simp; omega)]
      cases neg
      · rfl
      · rw [cond_true, bif_pos (by rw [strMax_eq]; simp; omega)]
        rfl
  · have e0 : (checkR neg c e == 0) = false := by simpa using h
    rw [e0, if_neg h]
    rfl
theorem text_len (neg : Bool) (c : Nat) (hc : c < two64) (e : Int) (he : -18 ≤ e ∧ e ≤ 18) : (textD neg c e).length ≤ 39 ∧ (0 ≤ e ∨ e < 0) := by
  have hl := dd_len64 hc
  have hs : (sgn neg).length ≤ 1 := by cases neg <;> decide
  refine ⟨?_, by omega⟩
  unfold textD
  by_cases h : 0 ≤ e
  · rw [if_pos h]; simp; omega
  · rw [if_neg h]
    obtain ⟨w1, w2, w3⟩ := wideW_len c hc e (by omega)
    have : (wideW c e).length ≤ 20 ∨ (wideW c e).length = (1 - e).toNat := by unfold wideW; simp; omega
    simp
    omega
end Go.AM
set_option linter.unusedVariables false
set_option linter.unusedSimpArgs false
namespace Go.AM
theorem bif_some {α : Type} (b : Bool) (u v : α) : (bif b then some u else some v) = some (bif b then u else v) := by cases b <;> rfl
def btw (x lo hi : Int) : Bool := decide (lo ≤ x) && decide (x ≤ hi)
def wordI (x : Int) : Bool := btw x 65 90 || (btw x 97 122 || (x == 95 || (x == 46 || (x == 45 || btw x 48 57))))
def cls (c : Int) (b : UInt8) : Bool :=
  bif c == 3 then btw b.toNat 33 126 && (!((b.toNat : Int) == 44) && !((b.toNat : Int) == 124))
  else bif c == 2 then ((b.toNat : Int) == 47) || wordI b.toNat
  else bif c == 1 then wordI b.toNat
  else (c == 4) && btw b.toNat 48 57
def may (c : Int) : Bool := decide (1 ≤ c) && decide (c ≤ 4)
theorem may_cls (n : Nat) (c : Int) : F.class_may n c = some (may c) := by
  unfold F.class_may may
  by_cases h : 1 ≤ c
  · rw [bif_pos (by omega)]; simp [h]
  · rw [bif_neg (by omega)]; simp [h]
theorem between_eq (n : Nat) (x lo hi : Int) : F.class_between n x lo hi = some (btw x lo hi) := by
  unfold F.class_between btw
  by_cases h : lo ≤ x
  · rw [bif_pos (by omega)]; simp [h]
  · rw [bif_neg (by omega)]; simp [h]
theorem is_eq (n : Nat) (c : Int) (b : UInt8) : F.class_Is n c (b.toNat) = some (cls c b) := by
  unfold F.class_Is cls wordI
  simp only [between_eq, some_bind', bif_some]
  congr 1
  cases c == 3 <;> cases c == 2 <;> cases c == 1 <;> cases c == 4 <;> generalize hx : (b.toNat : Int) = x <;> clear hx <;>
    (cases btw x 33 126 <;> cases x == 44 <;> cases btw x 65 90 <;> cases btw x 97 122 <;> cases x == 95 <;> cases x == 46 <;> cases x == 45 <;> cases x == 47 <;> rfl)
def badK (p : UInt8 → Bool) : Nat → List UInt8 → Int
  | _, [] => -1
  | k, b :: l => if p b then badK p (k + 1) l else (k : Int)
theorem badK_ge (p : UInt8 → Bool) (k : Nat) (l : List UInt8) : 0 ≤ badK p k l ↔ ¬ l.all p = true := by
  induction l generalizing k with
  | nil => simp [badK]
  | cons b l ih =>
    unfold badK
    by_cases h : p b = true
    · rw [if_pos h, ih]; simp [h]
    · rw [if_neg h]; simp [h]
theorem badK_neg (p : UInt8 → Bool) (k : Nat) (l : List UInt8) (h : l.all p = true) : badK p k l = -1 := by
  induction l generalizing k with
  | nil => rfl
  | cons b l ih =>
    simp only [List.all_cons, Bool.and_eq_true] at h
    unfold badK
    rw [if_pos h.1, ih _ h.2]
theorem bad_cls_loop (n : Nat) (X : Type) (k0 : Unit → Option X) (kr : Int → Int → Option X) (c : Int) (s : List UInt8) (hs : s.length < 4611686018427387904) : ∀ (r : List UInt8) (k m : Nat), s.drop k = r → r.length < m →
    F.class_Bad.L4 n k0 kr m c s (s.length : Int) (k : Int) = if 0 ≤ badK (cls c) k r then kr (badK (cls c) k r) 0 else k0 () := by
  intro r
  induction r with
  | nil =>
    intro k m hk hm
    have := drop_nil' hk
    cases m with
    | zero => simp at hm
    | succ m =>
      show F.class_Bad.L4.step n _ k0 kr c s _ k = _
      unfold F.class_Bad.L4.step
      rw [bif_neg (by omega)]
      rfl
  | cons x r ih =>
    intro k m hk hm
    obtain ⟨h1, h2, h3⟩ := drop_cons hk
    cases m with
    | zero => simp at hm
    | succ m =>
      show F.class_Bad.L4.step n (F.class_Bad.L4 n k0 kr m) k0 kr c s _ k = _
      unfold F.class_Bad.L4.step
      rw [bif_pos (by omega), idx_nat, h2, some_bind', is_eq, some_bind']
      unfold badK
      by_cases hx : cls c x = true
      · rw [hx, if_pos rfl, wrap_succ (by omega), ih (k + 1) m h3 (by simp at hm; omega)]
        rfl
      · have hx : cls c x = false := by simpa using hx
        rw [hx]
        have : ¬ (false = true) := by simp
        rw [if_neg this, if_pos (by omega)]
        rfl
theorem bad_cls (n : Nat) (c : Int) (s : List UInt8) (hs : s.length < 4611686018427387904) (hn : s.length < n) : F.class_Bad n c s = some (bif may c then (badK (cls c) 0 s, 0, ()) else (0, 1, ())) := by
  unfold F.class_Bad
  rw [may_cls, some_bind']
  cases hm : may c
  · rfl
  · simp only [Bool.not_true, cond_false]
    refine (bad_cls_loop n _ _ _ c s hs s 0 n rfl hn).trans ?_
    by_cases h : 0 ≤ badK (cls c) 0 s
    · rw [if_pos h]; rfl
    · rw [if_neg h]
      have : s.all (cls c) = true := Classical.byContradiction fun hh => h ((badK_ge _ _ _).2 hh)
      rw [badK_neg _ _ _ this]; rfl
def textF (c : Int) (s : List UInt8) (lo hi : Int) : Int × Int × Unit :=
  if may c = false ∨ lo < 0 ∨ hi < lo then (1, 0, ()) else if (s.length : Int) < lo then (13, (s.length : Int), ()) else if (s.length : Int) > hi then (12, hi, ())
  else if 0 ≤ badK (cls c) 0 s then (14, badK (cls c) 0 s, ()) else (0, 0, ())
theorem text_cls (n : Nat) (c : Int) (s : List UInt8) (lo hi : Int) (hs : s.length < 4611686018427387904) (hn : s.length < n) : F.class_Text n c s lo hi = some (textF c s lo hi) := by
  unfold F.class_Text textF
  rw [bad_cls n c s hs hn, some_bind']
  cases hm : may c
  · rw [if_pos (Or.inl rfl)]; rfl
  · simp only [cond_true]
    have e : (!((0 : Int) == 0)) = false := rfl
    rw [e, cond_false]
    by_cases h1 : lo < 0
    · rw [bif_pos h1, if_pos (Or.inr (Or.inl h1))]
    · rw [bif_neg h1]
      by_cases h2 : hi < lo
      · rw [bif_pos h2, if_pos (Or.inr (Or.inr h2))]
      · rw [bif_neg h2, if_neg (by simp [h1, h2])]
        by_cases h3 : (s.length : Int) < lo
        · rw [bif_pos h3, if_pos h3]
        · rw [bif_neg h3, if_neg h3]
          by_cases h4 : (s.length : Int) > hi
          · rw [bif_pos h4, if_pos h4]
          · rw [bif_neg h4, if_neg h4]
            by_cases h5 : 0 ≤ badK (cls c) 0 s
            · rw [bif_pos (by omega), if_pos h5]
            · rw [bif_neg (by omega), if_neg h5]
def bytesOf (c : Int) : List UInt8 :=
  bif c == 1 then [65, 66, 67, 68, 69, 70, 71, 72, 73, 74, 75, 76, 77, 78, 79, 80, 81, 82, 83, 84, 85, 86, 87, 88, 89, 90, 97, 98, 99, 100, 101, 102, 103, 104, 105, 106, 107, 108, 109, 110, 111, 112, 113, 114, 115, 116, 117, 118, 119, 120, 121, 122, 48, 49, 50, 51, 52, 53, 54, 55, 56, 57, 95, 46, 45]
  else bif c == 2 then [65, 66, 67, 68, 69, 70, 71, 72, 73, 74, 75, 76, 77, 78, 79, 80, 81, 82, 83, 84, 85, 86, 87, 88, 89, 90, 97, 98, 99, 100, 101, 102, 103, 104, 105, 106, 107, 108, 109, 110, 111, 112, 113, 114, 115, 116, 117, 118, 119, 120, 121, 122, 48, 49, 50, 51, 52, 53, 54, 55, 56, 57, 95, 46, 45, 47]
  else bif c == 3 then [65, 66, 67, 68, 69, 70, 71, 72, 73, 74, 75, 76, 77, 78, 79, 80, 81, 82, 83, 84, 85, 86, 87, 88, 89, 90, 97, 98, 99, 100, 101, 102, 103, 104, 105, 106, 107, 108, 109, 110, 111, 112, 113, 114, 115, 116, 117, 118, 119, 120, 121, 122, 48, 49, 50, 51, 52, 53, 54, 55, 56, 57, 95, 46, 45, 47, 33, 34, 35, 36, 37, 38, 39, 40, 41, 42, 43, 58, 59, 60, 61, 62, 63, 64, 91, 92, 93, 94, 96, 123, 125, 126]
  else bif c == 4 then [48, 49, 50, 51, 52, 53, 54, 55, 56, 57] else []
theorem bytes_ref (n : Nat) (c : Int) : F.ref04_Bytes n c = some (bytesOf c) := by
  unfold F.ref04_Bytes bytesOf
  rw [bif_pos (by decide), bif_pos (by decide), bif_pos (by decide), bif_pos (by decide)]
  cases c == 1 <;> cases c == 2 <;> cases c == 3 <;> cases c == 4 <;> rfl
theorem is_ref_loop (n : Nat) (X : Type) (k0 : Unit → Option X) (kr : Bool → Option X) (x : UInt8) (s : List UInt8) (hs : s.length < 4611686018427387904) : ∀ (r : List UInt8) (k m : Nat), s.drop k = r → r.length < m →
    F.ref04_Is.L3 n k0 kr m (x.toNat : Int) s (k : Int) = if x ∈ r then kr true else k0 () := by
  intro r
  induction r with
  | nil =>
    intro k m hk hm
    have := drop_nil' hk
    cases m with
    | zero => simp at hm
    | succ m =>
      show F.ref04_Is.L3.step n _ k0 kr _ s k = _
      unfold F.ref04_Is.L3.step
      rw [bif_neg (by omega)]
      simp
  | cons y r ih =>
    intro k m hk hm
    obtain ⟨h1, h2, h3⟩ := drop_cons hk
    cases m with
    | zero => simp at hm
    | succ m =>
      show F.ref04_Is.L3.step n (F.ref04_Is.L3 n k0 kr m) k0 kr _ s k = _
      unfold F.ref04_Is.L3.step
      rw [bif_pos (by omega), idx_nat, h2, some_bind']
      by_cases hx : x = y
      · subst hx; simp
      · have : ¬ (y.toNat : Int) = (x.toNat : Int) := fun h => hx (u8_ext (by omega)).symm
        have e : ((y.toNat : Int) == (x.toNat : Int)) = false := by simpa using this
        rw [e, cond_false, wrap_succ (by omega), ih (k + 1) m h3 (by simp at hm; omega)]
        simp [hx]
theorem cls_mem_all : ∀ i : Fin 256, (UInt8.ofNat i.val ∈ bytesOf 1 ↔ cls 1 (UInt8.ofNat i.val) = true) ∧ (UInt8.ofNat i.val ∈ bytesOf 2 ↔ cls 2 (UInt8.ofNat i.val) = true) ∧ (UInt8.ofNat i.val ∈ bytesOf 3 ↔ cls 3 (UInt8.ofNat i.val) = true) ∧ (UInt8.ofNat i.val ∈ bytesOf 4 ↔ cls 4 (UInt8.ofNat i.val) = true) := by decide +kernel
theorem cls_mem (c : Int) (b : UInt8) : b ∈ bytesOf c ↔ cls c b = true := by
  have h := cls_mem_all ⟨b.toNat, b.toNat_lt⟩
  have e : UInt8.ofNat b.toNat = b := by simp
  simp only [e] at h
  by_cases h1 : c = 1
  · subst h1; exact h.1
  by_cases h2 : c = 2
  · subst h2; exact h.2.1
  by_cases h3 : c = 3
  · subst h3; exact h.2.2.1
  by_cases h4 : c = 4
  · subst h4; exact h.2.2.2
  have b1 : (c == 1) = false := by simp [h1]
  have b2 : (c == 2) = false := by simp [h2]
  have b3 : (c == 3) = false := by simp [h3]
  have b4 : (c == 4) = false := by simp [h4]
  unfold bytesOf cls
  rw [b1, b2, b3, b4]
  simp
theorem is_ref (n : Nat) (hn : 100 ≤ n) (c : Int) (x : UInt8) : F.ref04_Is n c (x.toNat : Int) = some (cls c x) := by
  unfold F.ref04_Is
  rw [bytes_ref, some_bind']
  have hl : (bytesOf c).length < 100 := by
    unfold bytesOf
    cases c == 1 <;> cases c == 2 <;> cases c == 3 <;> cases c == 4 <;> decide
  refine (is_ref_loop n _ _ _ x (bytesOf c) (by omega) (bytesOf c) 0 n rfl (by omega)).trans ?_
  by_cases h : x ∈ bytesOf c
  · rw [if_pos h, (cls_mem c x).1 h]
  · rw [if_neg h]
    cases e : cls c x
    · rfl
    · exact absurd ((cls_mem c x).2 e) h
theorem bad_ref_loop (n : Nat) (hn : 100 ≤ n) (X : Type) (k0 : Unit → Option X) (kr : Int → Option X) (c : Int) (s : List UInt8) (hs : s.length < 4611686018427387904) : ∀ (r : List UInt8) (k m : Nat), s.drop k = r → r.length < m →
    F.ref04_Bad.L2 n k0 kr m c s (k : Int) = if 0 ≤ badK (cls c) k r then kr (badK (cls c) k r) else k0 () := by
  intro r
  induction r with
  | nil =>
    intro k m hk hm
    have := drop_nil' hk
    cases m with
    | zero => simp at hm
    | succ m =>
      show F.ref04_Bad.L2.step n _ k0 kr c s k = _
      unfold F.ref04_Bad.L2.step
      rw [bif_neg (by omega)]
      rfl
  | cons x r ih =>
    intro k m hk hm
    obtain ⟨h1, h2, h3⟩ := drop_cons hk
    cases m with
    | zero => simp at hm
    | succ m =>
      show F.ref04_Bad.L2.step n (F.ref04_Bad.L2 n k0 kr m) k0 kr c s k = _
      unfold F.ref04_Bad.L2.step
      rw [bif_pos (by omega), idx_nat, h2, some_bind', is_ref n hn, some_bind']
      unfold badK
      by_cases hx : cls c x = true
      · rw [hx, if_pos rfl, wrap_succ (by omega), ih (k + 1) m h3 (by simp at hm; omega)]
        rfl
      · have hx : cls c x = false := by simpa using hx
        rw [hx]
        have : ¬ (false = true) := by simp
        rw [if_neg this, if_pos (by omega)]
        rfl
theorem bad_ref (n : Nat) (h100 : 100 ≤ n) (c : Int) (s : List UInt8) (hs : s.length < 4611686018427387904) (hn : s.length < n) : F.ref04_Bad n c s = some (badK (cls c) 0 s) := by
  unfold F.ref04_Bad
  refine (bad_ref_loop n h100 _ _ _ c s hs s 0 n rfl hn).trans ?_
  by_cases h : 0 ≤ badK (cls c) 0 s
  · rw [if_pos h]
  · rw [if_neg h]
    have : s.all (cls c) = true := Classical.byContradiction fun hh => h ((badK_ge _ _ _).2 hh)
    rw [badK_neg _ _ _ this]
end Go.AM
set_option linter.unusedVariables false
set_option linter.unusedSimpArgs false
namespace Go.AM
theorem textF_at {c : Int} {s : List UInt8} {lo hi : Int} (h : (textF c s lo hi).1 = 0) : (textF c s lo hi).2.1 = 0 := by
  unfold textF at h ⊢
  by_cases h1 : may c = false ∨ lo < 0 ∨ hi < lo
  · rw [if_pos h1]
  rw [if_neg h1] at h ⊢
  by_cases h2 : (s.length : Int) < lo
  · rw [if_pos h2] at h; cases h
  rw [if_neg h2] at h ⊢
  by_cases h3 : (s.length : Int) > hi
  · rw [if_pos h3] at h; cases h
  rw [if_neg h3] at h ⊢
  by_cases h4 : 0 ≤ badK (cls c) 0 s
  · rw [if_pos h4] at h; cases h
  rw [if_neg h4]
abbrev MetD := List UInt8 × Int × List (Bool × Int × Int) × Int × List (List UInt8 × List UInt8) × Int × Unit
end Go.AM
set_option linter.unusedVariables false
set_option linter.unusedSimpArgs false
namespace Go.AM
theorem digits03_go (n : Nat) : ∀ (m u : Nat), u < 18446744073709551616 → Lib.nDigits u ≤ m → F.ref03_Digits.go n m (u : Int) = some (Lib.decDigits u) := by
  intro m
  induction m with
  | zero =>
    intro u _ h
    have := Lib.nDigits_pos u
    omega
  | succ m ih =>
    intro u hu h
    have one : ∀ d : Nat, d < 10 → sub ([48, 49, 50, 51, 52, 53, 54, 55, 56, 57] : List UInt8) (d : Int) ((d + 1 : Nat) : Int) = some [UInt8.ofNat (48 + d)] := by
      intro d hd
      rw [sub_nat _ _ _ (by omega) (by simp; omega)]
      have := (by decide : ∀ d : Fin 10, (([48, 49, 50, 51, 52, 53, 54, 55, 56, 57] : List UInt8).take (d.val + 1)).drop d.val = [UInt8.ofNat (48 + d.val)]) ⟨d, hd⟩
      rw [this]
    show (bif decide ((u : Int) < 10) then _ else _) = _
    by_cases h1 : u < 10
    · rw [bif_pos (by omega), show IntKind.wrap .u64 ((u : Int) + 1) = ((u + 1 : Nat) : Int) from by rw [IntWalk.u64_in _ (by omega)]; omega, one u h1, some_bind', dd_small h1]
    · rw [bif_neg (by omega)]
      have e1 : (u : Int).tdiv 10 = ((u / 10 : Nat) : Int) := rfl
      have e2 : (u : Int).tmod 10 = ((u % 10 : Nat) : Int) := rfl
      have hN := Lib.nDigits_big h1
      rw [e1, e2, IntWalk.u64_in _ (by omega), ih (u / 10) (by omega) (by omega), some_bind', show IntKind.wrap .u64 (((u % 10 : Nat) : Int) + 1) = ((u % 10 + 1 : Nat) : Int) from by rw [IntWalk.u64_in _ (by omega)]; omega, one (u % 10) (by omega), some_bind', dd_big h1, bif_pos]
      have := Lib.nDigits_le20 (u / 10) (by omega)
      rw [dd_length, strMax_eq]
      simp; omega
theorem digits03 (n : Nat) (hn : 20 ≤ n) (u : Nat) (hu : u < two64) : F.ref03_Digits n (u : Int) = some (Lib.decDigits u) := by
  unfold F.ref03_Digits
  exact digits03_go n n u hu (Nat.le_trans (Lib.nDigits_le20 u hu) hn)
theorem lead_loop (n : Nat) (X : Type) (k0 : Bool → (List UInt8) → Int → Bool → Int → Int → Option X) (neg b : Bool) (e x y : Int) : ∀ (d : List UInt8) (m : Nat), d.length < m → d.length < 4611686018427387904 → F.ref03_Make.L1 n k0 m neg d e b x y = k0 neg (lz d) e b x y := by
  intro d
  induction d with
  | nil =>
    intro m hm _
    obtain ⟨m, rfl⟩ : ∃ q, m = q + 1 := ⟨m - 1, by omega⟩
    rfl
  | cons c d ih =>
    intro m hm hl
    obtain ⟨m, rfl⟩ : ∃ q, m = q + 1 := ⟨m - 1, by omega⟩
    show F.ref03_Make.L1.step n (F.ref03_Make.L1 n k0 m) k0 neg (c :: d) e b x y = _
    unfold F.ref03_Make.L1.step
    have ei : idx (c :: d) (0 : Int) = some c := rfl
    rw [bif_pos (by simp), ei, some_bind', u8_48]
    have hsub : sub (c :: d) 1 (((c :: d).length : Nat) : Int) = some d := by
      have := sub_nat (c :: d) 1 (c :: d).length (by simp) (by simp)
      rw [List.take_length] at this
      exact this
    by_cases h : c = 48
    · subst h
      rw [decide_eq_true rfl, cond_true, hsub, some_bind', ih m (by simp at hm; omega) (by simp at hl; omega)]
      congr 1
    · rw [decide_eq_false h, cond_false]
      unfold lz
      have e' : (c :: d).dropWhile (· == 48) = c :: d := by simp [List.dropWhile_cons, h]
      rw [e']
theorem trail_loop (n : Nat) (X : Type) (k2 : Bool → (List UInt8) → Int → Bool → Int → Int → Option X) (neg b : Bool) (x y : Int) (a : List UInt8) (ha : a ≠ []) (hl : ∀ x, a.getLast? = some x → x ≠ 48) (hal : a.length ≤ 100000) : ∀ (z m : Nat) (e : Int), z < m → z ≤ 100000 → -2000000 ≤ e → e ≤ 2000 →
    ∃ j, j ≤ z ∧ F.ref03_Make.L7 n k2 m neg (a ++ List.replicate z 48) e b x y = k2 neg (a ++ List.replicate j 48) (e + z - j) b x y ∧ (j = 0 ∨ 18 ≤ e + z - j) ∧ (e + z - j ≤ 18 ∨ j = z) := by
  intro z
  induction z with
  | zero =>
    intro m e hm hz he1 he2
    obtain ⟨m, rfl⟩ : ∃ q, m = q + 1 := ⟨m - 1, by omega⟩
    refine ⟨0, Nat.le_refl _, ?_, Or.inl rfl, Or.inr rfl⟩
    show F.ref03_Make.L7.step n _ k2 _ _ _ _ _ _ = _
    unfold F.ref03_Make.L7.step
    obtain ⟨c, c1, c2⟩ := last_not ha hl
    have hp : 0 < a.length := List.length_pos_iff.2 ha
    have hw : IntKind.wrap .i64 ((a.length : Int) - 1) = (a.length : Int) - 1 := wrap_in (by omega)
    rw [List.replicate_zero, List.append_nil, hw, c1, some_bind', u8_48, decide_eq_false c2, cond_false, show e + ((0 : Nat) : Int) - ((0 : Nat) : Int) = e from by omega]
    cases decide (e < 18) <;> rfl
  | succ z ih =>
    intro m e hm hz he1 he2
    obtain ⟨m, rfl⟩ : ∃ q, m = q + 1 := ⟨m - 1, by omega⟩
    have hstep : F.ref03_Make.L7 n k2 (m + 1) neg (a ++ List.replicate (z + 1) 48) e b x y = F.ref03_Make.L7.step n (F.ref03_Make.L7 n k2 m) k2 neg (a ++ List.replicate (z + 1) 48) e b x y := rfl
    rw [hstep]
    unfold F.ref03_Make.L7.step
    by_cases h18 : e < 18
    · obtain ⟨l1, l2⟩ := last_rep a z
      have hlen : (a ++ List.replicate (z + 1) (48 : UInt8)).length = a.length + z + 1 := by simp; omega
      have hw : IntKind.wrap .i64 (((a ++ List.replicate (z + 1) (48 : UInt8)).length : Int) - 1) = ((a ++ List.replicate (z + 1) (48 : UInt8)).length : Int) - 1 := wrap_in (by omega)
      rw [bif_pos h18, hw, l1, some_bind', u8_48, decide_eq_true rfl, cond_true, l2, some_bind', wrap_in (by omega)]
      obtain ⟨j, j1, j2, j3, j4⟩ := ih m (e + 1) (by omega) (by omega) (by omega) (by omega)
      refine ⟨j, by omega, ?_, ?_, ?_⟩
      · rw [j2]
        congr 1
        omega
      · rcases j3 with j3 | j3
        · exact Or.inl j3
        · exact Or.inr (by omega)
      · exact Or.inl (by omega)
    · rw [bif_neg h18]
      refine ⟨z + 1, Nat.le_refl _, ?_, Or.inr (by omega), Or.inr rfl⟩
      congr 1
      omega
theorem pad_loop (n : Nat) (X : Type) (k4 : Bool → (List UInt8) → Int → Bool → Int → Int → Option X) (neg b : Bool) (x y : Int) : ∀ (d m : Nat) (a : List UInt8), d < m → a.length + d ≤ 1000000 → F.ref03_Make.L10 n k4 m neg a (18 + (d : Int)) b x y = k4 neg (a ++ List.replicate d 48) 18 b x y := by
  intro d
  induction d with
  | zero =>
    intro m a hm hl
    obtain ⟨m, rfl⟩ : ∃ q, m = q + 1 := ⟨m - 1, by omega⟩
    show F.ref03_Make.L10.step n _ k4 _ _ _ _ _ _ = _
    unfold F.ref03_Make.L10.step
    rw [bif_neg (by omega), List.replicate_zero, List.append_nil]
    rfl
  | succ d ih =>
    intro m a hm hl
    obtain ⟨m, rfl⟩ : ∃ q, m = q + 1 := ⟨m - 1, by omega⟩
    show F.ref03_Make.L10.step n (F.ref03_Make.L10 n k4 m) k4 _ _ _ _ _ _ = _
    unfold F.ref03_Make.L10.step
    rw [bif_pos (by omega), bif_pos (by rw [strMax_eq]; omega), wrap_in (by omega), show 18 + ((d + 1 : Nat) : Int) - 1 = 18 + (d : Int) from by omega, ih m _ (by omega) (by simp; omega), List.append_assoc, List.replicate_succ]
    rfl
theorem pad_no (n : Nat) (X : Type) (k4 : Bool → (List UInt8) → Int → Bool → Int → Int → Option X) (neg b : Bool) (x y : Int) (m : Nat) (hm : 0 < m) (a : List UInt8) (E : Int) (h : ¬ E > 18) : F.ref03_Make.L10 n k4 m neg a E b x y = k4 neg a E b x y := by
  obtain ⟨m, rfl⟩ : ∃ q, m = q + 1 := ⟨m - 1, by omega⟩
  show F.ref03_Make.L10.step n (F.ref03_Make.L10 n k4 m) k4 _ _ _ _ _ _ = _
  unfold F.ref03_Make.L10.step
  rw [bif_neg h]
theorem fits_eq (n : Nat) {d : List UInt8} (hd : Digs d) (hne : d ≠ []) (hh : ∀ x, d.head? = some x → x ≠ 48) : F.ref03_Fits n d = some (decide (val d < two64)) := by
  unfold F.ref03_Fits
  have hlt := val_lt hd
  have hge := val_ge hd hne hh
  have hp : 0 < d.length := List.length_pos_iff.2 hne
  rw [two64_eq]
  by_cases h1 : d.length < 20
  · have : 10 ^ d.length ≤ 10 ^ 19 := Nat.pow_le_pow_right (by omega) (by omega)
    have h2 : val d < 18446744073709551616 := by omega
    rw [bif_pos (by omega), decide_eq_true h2]
  rw [bif_neg (by omega)]
  by_cases h2 : d.length = 20
  · have e : ((d.length : Int) == 20) = true := by rw [h2]; rfl
    rw [e, cond_true]
    have hm : Digs [49, 56, 52, 52, 54, 55, 52, 52, 48, 55, 51, 55, 48, 57, 53, 53, 49, 54, 49, 53] := rfl
    have hv : val [49, 56, 52, 52, 54, 55, 52, 52, 48, 55, 51, 55, 48, 57, 53, 53, 49, 54, 49, 53] = 18446744073709551615 := rfl
    rw [less_val hd hm h2, hv]
    congr 1
    by_cases h3 : val d < 18446744073709551615
    · simp [h3]; omega
    · by_cases h4 : val d = 18446744073709551615
      · have : d = [49, 56, 52, 52, 54, 55, 52, 52, 48, 55, 51, 55, 48, 57, 53, 53, 49, 54, 49, 53] := val_inj hd hm h2 (h4.trans hv.symm)
        rw [decide_eq_false h3, this, beq_self_eq_true, hv]
        rfl
      · have hne' : ¬ d = [49, 56, 52, 52, 54, 55, 52, 52, 48, 55, 51, 55, 48, 57, 53, 53, 49, 54, 49, 53] := fun hh => h4 (by rw [hh]; exact hv)
        rw [decide_eq_false h3, beq_eq_false_iff_ne.2 hne', decide_eq_false (show ¬ val d < 18446744073709551616 by omega)]
        rfl
  · have e : ((d.length : Int) == 20) = false := by
      have : ¬ (d.length : Int) = 20 := by omega
      simpa using this
    have : 10 ^ 20 ≤ 10 ^ (d.length - 1) := Nat.pow_le_pow_right (by omega) (by omega)
    rw [e, cond_false, decide_eq_false (by omega)]
theorem value03_loop (n : Nat) (X : Type) (k0 : Int → Option X) (s : List UInt8) (hs : s.length < 4611686018427387904) (hv : val s < two64) : ∀ (r : List UInt8) (k m : Nat), s.drop k = r → r.length < m → Digs r →
    F.ref03_Value.L3 n k0 m s (val (s.take k) : Int) (k : Int) = k0 (val s) := by
  intro r
  induction r with
  | nil =>
    intro k m hk hm hd
    have hk := drop_nil' hk
    obtain ⟨m, rfl⟩ : ∃ q, m = q + 1 := ⟨m - 1, by omega⟩
    show F.ref03_Value.L3.step n _ k0 s _ k = _
    unfold F.ref03_Value.L3.step
    rw [bif_neg (by omega), List.take_of_length_le hk]
  | cons x r ih =>
    intro k m hk hm hd
    obtain ⟨h1, h2, h3⟩ := drop_cons hk
    obtain ⟨d1, d2⟩ := digs_cons.1 hd
    have hx := isDig_iff.1 d1
    obtain ⟨m, rfl⟩ : ∃ q, m = q + 1 := ⟨m - 1, by omega⟩
    show F.ref03_Value.L3.step n (F.ref03_Value.L3 n k0 m) k0 s _ k = _
    unfold F.ref03_Value.L3.step
    have htk : s.take (k + 1) = s.take k ++ [x] := by rw [List.take_add_one, h2]; rfl
    have hvk : val (s.take (k + 1)) = val (s.take k) * 10 + dv x := by rw [htk, val_snoc]
    have hsv : val (s.take (k + 1)) ≤ val s := by
      have e : s = s.take (k + 1) ++ s.drop (k + 1) := (List.take_append_drop _ _).symm
      have h5 : val s = val (s.take (k + 1)) * 10 ^ (s.drop (k + 1)).length + val (s.drop (k + 1)) := by
        conv => lhs; rw [e]
        rw [val_append]
      have := Nat.le_mul_of_pos_right (val (s.take (k + 1))) (Nat.pow_pos (n := (s.drop (k + 1)).length) (show 0 < 10 by omega))
      omega
    have hdl := dv_lt d1
    rw [two64_eq] at hv
    have hdx : IntKind.wrap .u64 (IntKind.wrap .u8 ((x.toNat : Int) - 48)) = (dv x : Int) := by
      have h8 : IntKind.wrap .u8 ((x.toNat : Int) - 48) = (x.toNat : Int) - 48 := IntWalk.u8_in _ (by omega)
      rw [h8, IntWalk.u64_in _ (by omega)]; unfold dv; omega
    rw [bif_pos (by omega), idx_nat, h2, some_bind', hdx, IntWalk.u64_in (10 * (val (s.take k) : Int)) (by omega), IntWalk.u64_in _ (by omega), wrap_succ (by omega), show 10 * (val (s.take k) : Int) + (dv x : Int) = (val (s.take (k + 1)) : Int) from by omega]
    exact ih (k + 1) m h3 (by simp at hm; omega) d2
theorem value03 (n : Nat) (s : List UInt8) (hs : s.length < 4611686018427387904) (hn : s.length < n) (hd : Digs s) (hv : val s < two64) : F.ref03_Value n s = some (val s : Int) :=
  value03_loop n _ _ s hs hv s 0 n rfl hn hd
theorem make_eq (n : Nat) (hn : 200000 ≤ n) (neg : Bool) (d : List UInt8) (hd : Digs d) (hl : d.length ≤ 10000) (e : Int) : F.ref03_Make n neg d e = some ((valR neg d e).1, (valR neg d e).2.1 == 0, ()) := by
  unfold F.ref03_Make
  rw [lead_loop n _ _ neg false e 0 0 d n (by omega) (by omega)]
  have hlz := lz_le d
  by_cases h0 : val d = 0
  · have : lz d = [] := by
      refine Classical.byContradiction fun hne => ?_
      have := val_ge (lz_digs hd) hne (fun x => lz_head)
      rw [lz_val, h0] at this
      have := Nat.pow_pos (n := (lz d).length - 1) (show 0 < 10 by omega)
      omega
    unfold valR
    rw [if_pos h0, this]
    rfl
  have hne : lz d ≠ [] := fun hh => by have := lz_val d; rw [hh] at this; exact h0 this.symm
  have e0 : (lz d == []) = false := by simpa using hne
  simp only [e0, cond_false]
  have hD := lz_digs hd
  have hv0 : val (lz d) ≠ 0 := by rw [lz_val]; exact h0
  have hcore := core_trz hD hv0
  have hvt := val_trz (lz d)
  generalize hzz : (lz d).length - (trz (lz d)).length = z at hvt
  have hR : valR neg d e = normR neg (val (trz (lz d))) (e + z) := valR_core hd hcore (by rw [← lz_val]; exact hvt) neg e
  rw [hR]
  have hc0 : 0 < val (trz (lz d)) := by omega
  have hnot : ∀ w, 20 ≤ w → ¬ val (trz (lz d)) * 10 ^ w < two64 := by
    intro w hw
    have h1 : 10 ^ 20 ≤ 10 ^ w := Nat.pow_le_pow_right (by omega) hw
    have h2 := Nat.le_mul_of_pos_left (10 ^ w) hc0
    rw [two64_eq]
    omega
  by_cases hbig : e > 1000
  · rw [bif_pos hbig]
    unfold normR
    rw [if_neg (by omega), if_neg (hnot _ (by omega))]
    rfl
  rw [bif_neg hbig]
  by_cases hlow : e < -1000000
  · rw [bif_pos hlow]
    unfold normR
    rw [if_pos (by omega)]
    rfl
  rw [bif_neg hlow]
  have hpad := trz_pad (lz d)
  rw [hzz] at hpad
  have hne' : trz (lz d) ≠ [] := fun hh => hv0 ((trz_nil hD).1 hh)
  have htl := trz_le (lz d)
  have hhead : ∀ (k : Nat) x, (trz (lz d) ++ List.replicate k 48).head? = some x → x ≠ 48 := by
    intro k x hx
    cases e : trz (lz d) with
    | nil => exact absurd e hne'
    | cons b r =>
      rw [e] at hx
      have hb : b = x := by simpa using hx
      refine lz_head (d := d) ?_
      rw [hpad, e, ← hb]; rfl
  have fin : ∀ (k : Nat) (E : Int), k ≤ 30000 →
      (bif decide (E < (-18 : Int)) then some (((false, (0 : Int), (0 : Int), ()), false, ()))
                else
                  (F.ref03_Fits n (trz (lz d) ++ List.replicate k 48)).bind fun y8 =>
                    bif !y8 then
                      some (((false, (0 : Int), (0 : Int), ()), false, ()))
                    else
                      (F.ref03_Value n (trz (lz d) ++ List.replicate k 48)).bind fun y9 =>
                        some (((neg, y9, E, ()), true, ())))
      = some (if E < -18 then ((false, (0 : Int), (0 : Int), ()), false, ()) else if val (trz (lz d)) * 10 ^ k < two64 then ((neg, ((val (trz (lz d)) * 10 ^ k : Nat) : Int), E, ()), true, ()) else ((false, (0 : Int), (0 : Int), ()), false, ())) := by
    intro k E hk
    by_cases hE : E < -18
    · rw [bif_pos hE, if_pos hE]
    · rw [bif_neg hE, if_neg hE]
      have hdk : Digs (trz (lz d) ++ List.replicate k 48) := digs_append.2 ⟨trz_digs hD, digs_rep _⟩
      have hlk : (trz (lz d) ++ List.replicate k (48 : UInt8)).length = (trz (lz d)).length + k := by simp
      rw [fits_eq n hdk (by simp [hne']) (hhead k), some_bind', val_zeros_right]
      by_cases hf : val (trz (lz d)) * 10 ^ k < two64
      · rw [decide_eq_true hf, if_pos hf, value03 n _ (by omega) (by omega) hdk (by rw [val_zeros_right]; exact hf), some_bind', val_zeros_right]
        rfl
      · rw [decide_eq_false hf, if_neg hf]; rfl
  obtain ⟨j, j1, j2, j3, j4⟩ := trail_loop n (DecD × Bool × Unit) (fun e6_0 e6_1 e6_2 e6_b0_0 e6_b0_1 e6_b0_2 =>
            F.ref03_Make.L10 n
              (fun e7_0 e7_1 e7_2 e7_b0_0 e7_b0_1 e7_b0_2 =>
                bif decide (e7_2 < (-18 : Int)) then
                  some (((false, (0 : Int), (0 : Int), ()), false, ()))
                else
                  (F.ref03_Fits n e7_1).bind fun y8 =>
                    bif !y8 then
                      some (((false, (0 : Int), (0 : Int), ()), false, ()))
                    else
                      (F.ref03_Value n e7_1).bind fun y9 =>
                        some (((e7_0, y9, e7_2, ()), true, ()))) n e6_0 e6_1 e6_2 e6_b0_0 e6_b0_1 e6_b0_2) neg false 0 0 (trz (lz d)) hne' (fun x => trz_last) (by omega) z n e (by omega) (by omega) (by omega) (by omega)
  rw [← hpad] at j2
  refine j2.trans ?_
  unfold normR
  by_cases hE : e + z - j > 18
  · obtain ⟨q, hq⟩ : ∃ q : Nat, e + z - j = 18 + (q : Int) := ⟨(e + z - j - 18).toNat, by omega⟩
    rw [hq, pad_loop n _ _ neg false 0 0 q n _ (by omega) (by simp; omega), List.append_assoc, List.replicate_append_replicate, fin (j + q) 18 (by omega), if_neg (by omega), if_neg (show ¬ e + (z : Int) < -18 by omega), show (e + z - 18).toNat = j + q from by omega]
    by_cases hf : val (trz (lz d)) * 10 ^ (j + q) < two64
    · rw [if_pos hf, if_pos hf, if_neg (by omega)]; rfl
    · rw [if_neg hf, if_neg hf]; rfl
  · rw [pad_no n _ _ neg false 0 0 n (by omega) _ _ hE, fin j _ (by omega)]
    by_cases h18 : e + z < -18
    · rw [if_pos (by omega), if_pos h18]; rfl
    · rw [if_neg (by omega), if_neg h18, show (e + z - 18).toNat = j from by omega]
      by_cases hf : val (trz (lz d)) * 10 ^ j < two64
      · rw [if_pos hf, if_pos hf]
        congr 4
        by_cases hh : e + z ≤ 18
        · rw [if_pos hh]
          have : j = 0 ∨ e + z = 18 := by omega
          congr 1
          omega
        · rw [if_neg hh]
          congr 1
          omega
      · rw [if_neg hf, if_neg hf]; rfl
end Go.AM
set_option linter.unusedVariables false
set_option linter.unusedSimpArgs false
namespace Go.AM
end Go.AM
set_option linter.unusedVariables false
set_option linter.unusedSimpArgs false
namespace Go.AM
abbrev DecL := Bool × Int × Int
abbrev TagL := List UInt8 × List UInt8
def DecLOK (d : DecL) : Prop := True ∧ (0 ≤ d.2.1 ∧ d.2.1 ≤ 18446744073709551615) ∧ -9223372036854775808 ≤ d.2.2 ∧ d.2.2 ≤ 9223372036854775807
def decC (d : DecL) : Int := checkR d.1 d.2.1.toNat d.2.2
theorem decL_nat {d : DecL} (h : DecLOK d) : ∃ (neg : Bool) (c : Nat) (e : Int), d = (neg, (c : Int), e) ∧ c < two64 ∧ -9223372036854775808 ≤ e ∧ e ≤ 9223372036854775807 := by
  obtain ⟨neg, c, e⟩ := d
  obtain ⟨_, ⟨h1, h2⟩, h3, h4⟩ := h
  simp only at h1 h2 h3 h4
  refine ⟨neg, c.toNat, e, ?_, ?_, h3, h4⟩
  · rw [show ((c.toNat : Nat) : Int) = c from by omega]
  · rw [two64_eq]; omega
theorem decC_chk (n : Nat) (hn : 100 ≤ n) {d : DecL} (h : DecLOK d) : F.dec_Check n (d.1, d.2.1, d.2.2, ()) = some (decC d) := by
  obtain ⟨neg, c, e, rfl, hc, he⟩ := decL_nat h
  exact check_eq n hn neg c hc e he
def nameOK (s : List UInt8) : Bool := (textF 1 s 1 200).1 == 0
def tagGood (t : TagL) : Bool := ((textF 2 t.1 1 64).1 == 0) && ((textF 3 t.2 0 100).1 == 0)
theorem textF_both (c : Int) (s : List UInt8) (lo hi : Int) : (((textF c s lo hi).1 == 0) && ((textF c s lo hi).2.1 == 0)) = ((textF c s lo hi).1 == 0) := by
  by_cases h : (textF c s lo hi).1 = 0
  · rw [h, textF_at h]; rfl
  · rw [beq_eq_false_iff_ne.2 h]; rfl
theorem text4_ref (n : Nat) (hn : 100 ≤ n) (c : Int) (s : List UInt8) (lo hi : Int) (hm : may c = true) (hlo : 0 ≤ lo) (hhi : lo ≤ hi) (hs : s.length < 4611686018427387904) (hl : s.length < n) : F.ref04_Text n c s lo hi = some (textF c s lo hi) := by
  unfold F.ref04_Text textF
  rw [bad_ref n hn c s hs hl, some_bind', if_neg (by simp [hm]; omega)]
  by_cases h3 : (s.length : Int) < lo
  · rw [bif_pos h3, if_pos h3]
  · rw [bif_neg h3, if_neg h3]
    by_cases h4 : (s.length : Int) > hi
    · rw [bif_pos h4, if_pos h4]
    · rw [bif_neg h4, if_neg h4]
      by_cases h5 : 0 ≤ badK (cls c) 0 s
      · rw [bif_pos (by omega), if_pos h5]
      · rw [bif_neg (by omega), if_neg h5]
def TagLOK (t : TagL) : Prop := t.1.length ≤ 10000 ∧ t.2.length ≤ 10000
theorem tag_chk (n : Nat) (hn : 200000 ≤ n) {t : TagL} (h : TagLOK t) : F.tag_Check n (t.1, t.2, ()) = some (bif tagGood t then 0 else 19) := by
  obtain ⟨h1, h2⟩ := h
  unfold F.tag_Check tagGood
  simp only [text_cls n 2 t.1 1 64 (by omega) (by omega), text_cls n 3 t.2 0 100 (by omega) (by omega), some_bind', textF_both]
  cases ((textF 2 t.1 1 64).1 == 0) <;> cases ((textF 3 t.2 0 100).1 == 0) <;> rfl
theorem tag_ref (n : Nat) (hn : 200000 ≤ n) {t : TagL} (h : TagLOK t) : F.ref06_Check n (t.1, t.2, ()) = some (bif tagGood t then 0 else 19) := by
  obtain ⟨h1, h2⟩ := h
  unfold F.ref06_Check F.ref06_Right tagGood
  simp only [text4_ref n (by omega) 2 t.1 1 64 rfl (by omega) (by omega) (by omega) (by omega), text4_ref n (by omega) 3 t.2 0 100 rfl (by omega) (by omega) (by omega) (by omega), some_bind', textF_both]
  cases ((textF 2 t.1 1 64).1 == 0) <;> cases ((textF 3 t.2 0 100).1 == 0) <;> rfl
def kindB (k : Int) : Bool := decide (1 ≤ k) && decide (k ≤ 5)
def valsB (vs : List DecL) : Bool := decide (1 ≤ vs.length) && (decide (vs.length ≤ 64) && vs.all fun d => decC d == 0)
def rateB (k r : Int) : Bool := decide (1 ≤ r) && (decide (r ≤ 1000000) && (!(k == 2) || r == 1000000))
def tagsB (ts : List TagL) : Bool := decide (ts.length ≤ 32) && ts.all tagGood
def timeB (t : Int) : Bool := decide (0 ≤ t) && decide (t ≤ 1099511627776)
def chkM (m : MetD) : Int :=
  bif !nameOK m.1 then 15 else bif !kindB m.2.1 then 16 else bif !valsB m.2.2.1 then 17 else bif !rateB m.2.1 m.2.2.2.1 then 18 else bif !tagsB m.2.2.2.2.1 then 19 else bif !timeB m.2.2.2.2.2.1 then 20 else 0
def MetOK (m : MetD) : Prop := m.1.length ≤ 10000 ∧ (m.2.2.1.length ≤ 10000 ∧ ∀ d ∈ m.2.2.1, DecLOK d) ∧ (m.2.2.2.2.1.length ≤ 10000 ∧ ∀ t ∈ m.2.2.2.2.1, TagLOK t)
theorem vals_loop (n : Nat) (hn : 200000 ≤ n) (k0 : List UInt8 → Int → List DecL → Int → List TagL → Int → Option Bool) (kr : Int → List UInt8 → Int → List DecL → Int → List TagL → Int → Option Bool) (h0 : ∀ a b c d e f, k0 a b c d e f = some true) (hr : ∀ i a b c d e f, 0 ≤ i → kr i a b c d e f = some false) (vs : List DecL) (hs : vs.length ≤ 10000) (hok : ∀ d ∈ vs, DecLOK d) (b0 : List UInt8) (b1 : Int) (b2 : List DecL) (b3 : Int) (b4 : List TagL) (b5 : Int) : ∀ (r : List DecL) (k m : Nat), vs.drop k = r → r.length < m →
    F.metric_look_values.L2_slices_IndexFunc_api_Dec_api_Dec n k0 kr m vs (vs.length : Int) (k : Int) b0 b1 b2 b3 b4 b5 = some (r.all fun d => decC d == 0) := by
  intro r
  induction r with
  | nil =>
    intro k m hk hm
    have := drop_nil' hk
    cases m with
    | zero => simp at hm
    | succ m =>
      show F.metric_look_values.L2_slices_IndexFunc_api_Dec_api_Dec.step n _ k0 kr vs _ _ _ _ _ _ _ _ = _
      unfold F.metric_look_values.L2_slices_IndexFunc_api_Dec_api_Dec.step
      rw [bif_neg (by omega), h0]
      rfl
  | cons x r ih =>
    intro k m hk hm
    obtain ⟨h1, h2, h3⟩ := drop_cons hk
    have hx : DecLOK x := hok x (List.mem_of_getElem? h2)
    cases m with
    | zero => simp at hm
    | succ m =>
      show F.metric_look_values.L2_slices_IndexFunc_api_Dec_api_Dec.step n (F.metric_look_values.L2_slices_IndexFunc_api_Dec_api_Dec n k0 kr m) k0 kr vs _ _ _ _ _ _ _ _ = _
      unfold F.metric_look_values.L2_slices_IndexFunc_api_Dec_api_Dec.step F.metric_look_values_1
      rw [bif_pos (by omega), idx_nat, h2]
      simp only [some_bind', decC_chk n (by omega) hx, List.all_cons]
      by_cases h : decC x = 0
      · rw [h, wrap_succ (by omega), ih (k + 1) m h3 (by simp at hm; omega)]; rfl
      · rw [beq_eq_false_iff_ne.2 h]
        simp [hr]
theorem tags_loop (n : Nat) (hn : 200000 ≤ n) (k0 : List UInt8 → Int → List DecL → Int → List TagL → Int → Option Bool) (kr : Int → List UInt8 → Int → List DecL → Int → List TagL → Int → Option Bool) (h0 : ∀ a b c d e f, k0 a b c d e f = some true) (hr : ∀ i a b c d e f, 0 ≤ i → kr i a b c d e f = some false) (vs : List TagL) (hs : vs.length ≤ 10000) (hok : ∀ d ∈ vs, TagLOK d) (b0 : List UInt8) (b1 : Int) (b2 : List DecL) (b3 : Int) (b4 : List TagL) (b5 : Int) : ∀ (r : List TagL) (k m : Nat), vs.drop k = r → r.length < m →
    F.metric_look_tags.L2_slices_IndexFunc_api_Tag_api_Tag n k0 kr m vs (vs.length : Int) (k : Int) b0 b1 b2 b3 b4 b5 = some (r.all tagGood) := by
  intro r
  induction r with
  | nil =>
    intro k m hk hm
    have := drop_nil' hk
    cases m with
    | zero => simp at hm
    | succ m =>
      show F.metric_look_tags.L2_slices_IndexFunc_api_Tag_api_Tag.step n _ k0 kr vs _ _ _ _ _ _ _ _ = _
      unfold F.metric_look_tags.L2_slices_IndexFunc_api_Tag_api_Tag.step
      rw [bif_neg (by omega), h0]
      rfl
  | cons x r ih =>
    intro k m hk hm
    obtain ⟨h1, h2, h3⟩ := drop_cons hk
    have hx : TagLOK x := hok x (List.mem_of_getElem? h2)
    cases m with
    | zero => simp at hm
    | succ m =>
      show F.metric_look_tags.L2_slices_IndexFunc_api_Tag_api_Tag.step n (F.metric_look_tags.L2_slices_IndexFunc_api_Tag_api_Tag n k0 kr m) k0 kr vs _ _ _ _ _ _ _ _ = _
      unfold F.metric_look_tags.L2_slices_IndexFunc_api_Tag_api_Tag.step F.metric_look_tags_1
      rw [bif_pos (by omega), idx_nat, h2]
      simp only [some_bind', tag_chk n hn hx, List.all_cons]
      cases h : tagGood x
      · simp [hr]
      · rw [wrap_succ (by omega), ih (k + 1) m h3 (by simp at hm; omega)]; rfl
theorem mbetween_eq (n : Nat) (x lo hi : Int) : F.metric_between n x lo hi = some (decide (lo ≤ x) && decide (x ≤ hi)) := by
  unfold F.metric_between
  by_cases h : lo ≤ x
  · rw [bif_pos (by omega), decide_eq_true h]; rfl
  · rw [bif_neg (by omega), decide_eq_false h]; rfl
theorem look_name (n : Nat) (m : MetD) (h : m.1.length ≤ 10000) (hn : 200000 ≤ n) : F.metric_look_name n m = some (nameOK m.1) := by
  unfold F.metric_look_name nameOK
  rw [text_cls n 1 m.1 1 200 (by omega) (by omega), some_bind', textF_both]
theorem look_kind (n : Nat) (m : MetD) : F.metric_look_kind n m = some (kindB m.2.1) := by
  unfold F.metric_look_kind kindB
  rw [mbetween_eq]; rfl
theorem look_values (n : Nat) (hn : 200000 ≤ n) (m : MetD) (hm : MetOK m) : F.metric_look_values n m = some (valsB m.2.2.1) := by
  unfold F.metric_look_values valsB
  have L := vals_loop n hn (fun _ _ _ _ _ _ => some true) (fun e _ _ _ _ _ _ => some (!(decide (e ≥ (0 : Int))))) (fun _ _ _ _ _ _ => rfl) (fun i _ _ _ _ _ _ h => by simp [h]) _ hm.2.1.1 hm.2.1.2 m.1 m.2.1 m.2.2.1 m.2.2.2.1 m.2.2.2.2.1 m.2.2.2.2.2.1 m.2.2.1 0 n rfl (by have := hm.2.1.1; omega)
  rw [show ((0 : Nat) : Int) = (0 : Int) from rfl] at L
  rw [mbetween_eq, some_bind', L]
  have e1 : decide ((1 : Int) ≤ (m.2.2.1.length : Int)) = decide (1 ≤ m.2.2.1.length) := by apply decide_eq_decide.2; omega
  have e2 : decide ((m.2.2.1.length : Int) ≤ 64) = decide (m.2.2.1.length ≤ 64) := by apply decide_eq_decide.2; omega
  rw [e1, e2]
  cases decide (1 ≤ m.2.2.1.length) <;> cases decide (m.2.2.1.length ≤ 64) <;> rfl
theorem look_rate (n : Nat) (m : MetD) : F.metric_look_rate n m = some (rateB m.2.1 m.2.2.2.1) := by
  unfold F.metric_look_rate rateB
  rw [mbetween_eq, some_bind']
  cases decide ((1 : Int) ≤ m.2.2.2.1) <;> cases decide (m.2.2.2.1 ≤ 1000000) <;> cases (m.2.1 == 2) <;> rfl
theorem look_tags (n : Nat) (hn : 200000 ≤ n) (m : MetD) (hm : MetOK m) : F.metric_look_tags n m = some (tagsB m.2.2.2.2.1) := by
  unfold F.metric_look_tags tagsB
  have L := tags_loop n hn (fun _ _ _ _ _ _ => some true) (fun e _ _ _ _ _ _ => some (!(decide (e ≥ (0 : Int))))) (fun _ _ _ _ _ _ => rfl) (fun i _ _ _ _ _ _ h => by simp [h]) _ hm.2.2.1 hm.2.2.2 m.1 m.2.1 m.2.2.1 m.2.2.2.1 m.2.2.2.2.1 m.2.2.2.2.2.1 m.2.2.2.2.1 0 n rfl (by have := hm.2.2.1; omega)
  rw [show ((0 : Nat) : Int) = (0 : Int) from rfl] at L
  rw [L]
  have e2 : decide ((m.2.2.2.2.1.length : Int) ≤ 32) = decide (m.2.2.2.2.1.length ≤ 32) := by apply decide_eq_decide.2; omega
  rw [e2]
  cases decide (m.2.2.2.2.1.length ≤ 32) <;> rfl
theorem look_time (n : Nat) (m : MetD) : F.metric_look_time n m = some (timeB m.2.2.2.2.2.1) := by
  unfold F.metric_look_time timeB
  rw [mbetween_eq]; rfl
theorem metcheck_eq (n : Nat) (hn : 200000 ≤ n) (m : MetD) (hm : MetOK m) : F.metric_Check n m = some (chkM m) := by
  unfold F.metric_Check
  obtain ⟨q, hq⟩ : ∃ q, n = q + 7 := ⟨n - 7, by omega⟩
  have l1 := look_name n m hm.1 hn
  have l2 := look_kind n m
  have l3 := look_values n hn m hm
  have l4 := look_rate n m
  have l5 := look_tags n hn m hm
  have l6 := look_time n m
  obtain ⟨nm, k, vs, r, ts, t, _⟩ := m
  simp only at l1 l2 l3 l4 l5 l6
  have key : ∀ (X : Type) (k0 : (List UInt8) → Int → (List DecL) → Int → (List TagL) → Int → (List UInt8) → Int → (List DecL) → Int → (List TagL) → Int → Option X) (kr : Int → (List UInt8) → Int → (List DecL) → Int → (List TagL) → Int → (List UInt8) → Int → (List DecL) → Int → (List TagL) → Int → Option X),
      F.metric_Check.L3 n k0 kr (q + 7) ((((nm, k, vs, r, ts, t, ()), ()), (())), (15 : Int), (((nm, k, vs, r, ts, t, ()), ()), (())), (16 : Int), (((nm, k, vs, r, ts, t, ()), ()), (())), (17 : Int), (((nm, k, vs, r, ts, t, ()), ()), (())), (18 : Int), (((nm, k, vs, r, ts, t, ()), ()), (())), (19 : Int), (((nm, k, vs, r, ts, t, ()), ()), (())), (20 : Int), ()) 0 nm k vs r ts t nm k vs r ts t =
      (bif !nameOK nm then kr 15 nm k vs r ts t nm k vs r ts t else bif !kindB k then kr 16 nm k vs r ts t nm k vs r ts t else bif !valsB vs then kr 17 nm k vs r ts t nm k vs r ts t else bif !rateB k r then kr 18 nm k vs r ts t nm k vs r ts t
        else bif !tagsB ts then kr 19 nm k vs r ts t nm k vs r ts t else bif !timeB t then kr 20 nm k vs r ts t nm k vs r ts t else k0 nm k vs r ts t nm k vs r ts t) := by
    intro X k0 kr
    refine Eq.trans (b := (F.metric_look_name n (nm, k, vs, r, ts, t, ())).bind fun y => bif !y then kr 15 nm k vs r ts t nm k vs r ts t else
      (F.metric_look_kind n (nm, k, vs, r, ts, t, ())).bind fun y => bif !y then kr 16 nm k vs r ts t nm k vs r ts t else
      (F.metric_look_values n (nm, k, vs, r, ts, t, ())).bind fun y => bif !y then kr 17 nm k vs r ts t nm k vs r ts t else
      (F.metric_look_rate n (nm, k, vs, r, ts, t, ())).bind fun y => bif !y then kr 18 nm k vs r ts t nm k vs r ts t else
      (F.metric_look_tags n (nm, k, vs, r, ts, t, ())).bind fun y => bif !y then kr 19 nm k vs r ts t nm k vs r ts t else
      (F.metric_look_time n (nm, k, vs, r, ts, t, ())).bind fun y => bif !y then kr 20 nm k vs r ts t nm k vs r ts t else k0 nm k vs r ts t nm k vs r ts t) (by kernel_rfl) ?_
    rw [l1, l2, l3, l4, l5, l6]
    rfl
  rw [← hq] at key
  rw [key]
  unfold chkM
  simp only [bif_some]
end Go.AM
set_option linter.unusedVariables false
set_option linter.unusedSimpArgs false
namespace Go.AM
theorem cls1_word (x : UInt8) : cls 1 x = wordI (x.toNat : Int) := rfl
theorem name_step {X : Type} (n : Nat) (rec : List UInt8 → Int → Option X) (k0 : List UInt8 → Option X) (kr : Bool → Option X) (s : List UInt8) (k : Nat) (hk : k < s.length) (hs : s.length ≤ 10000) (x : UInt8) (hx : s[k]? = some x) :
    F.ref07_Name.L2.step n rec k0 kr s (k : Int) = if cls 1 x = true then rec s ((k + 1 : Nat) : Int) else kr false := by
  unfold F.ref07_Name.L2.step
  rw [bif_pos (by omega), idx_nat, hx, wrap_succ (by omega), some_bind', cls1_word]
  unfold wordI btw
  generalize hv : ((x.toNat : Nat) : Int) = v
  generalize rec s ((k + 1 : Nat) : Int) = A
  generalize kr false = B
  simp only [Bool.cond_eq_ite, Bool.not_eq_true', Bool.or_eq_true, Bool.and_eq_true, decide_eq_true_eq, beq_iff_eq, beq_eq_false_iff_ne, ne_eq]
  repeat' split
  all_goals first
    | rfl
    | (exfalso; omega)
theorem name_ref_loop (n : Nat) (X : Type) (k0 : List UInt8 → Option X) (kr : Bool → Option X) (s : List UInt8) (hs : s.length ≤ 10000) : ∀ (r : List UInt8) (k m : Nat), s.drop k = r → r.length < m →
    F.ref07_Name.L2 n k0 kr m s (k : Int) = if r.all (cls 1) = true then k0 s else kr false := by
  intro r
  induction r with
  | nil =>
    intro k m hk hm
    have := drop_nil' hk
    cases m with
    | zero => simp at hm
    | succ m =>
      show F.ref07_Name.L2.step n (F.ref07_Name.L2 n k0 kr m) k0 kr s (k : Int) = _
      unfold F.ref07_Name.L2.step
      rw [bif_neg (by omega)]
      rfl
  | cons x r ih =>
    intro k m hk hm
    obtain ⟨h1, h2, h3⟩ := drop_cons hk
    cases m with
    | zero => simp at hm
    | succ m =>
      show F.ref07_Name.L2.step n (F.ref07_Name.L2 n k0 kr m) k0 kr s (k : Int) = _
      rw [name_step n _ _ _ s k h1 hs x h2, List.all_cons]
      cases hx : cls 1 x
      · rfl
      · rw [if_pos rfl, ih (k + 1) m h3 (by simp at hm; omega)]
        rfl
theorem nameOK_eq (s : List UInt8) : nameOK s = (s.all (cls 1) && (decide (1 ≤ s.length) && decide (s.length ≤ 200))) := by
  unfold nameOK textF
  rw [if_neg (by simp [may])]
  by_cases h1 : (s.length : Int) < 1
  · rw [if_pos h1]
    have : decide (1 ≤ s.length) = false := decide_eq_false (by omega)
    rw [this]; simp
  rw [if_neg h1]
  have e1 : decide (1 ≤ s.length) = true := decide_eq_true (by omega)
  by_cases h2 : (s.length : Int) > 200
  · rw [if_pos h2]
    have : decide (s.length ≤ 200) = false := decide_eq_false (by omega)
    rw [this]; simp
  rw [if_neg h2]
  have e2 : decide (s.length ≤ 200) = true := decide_eq_true (by omega)
  rw [e1, e2]
  by_cases h3 : 0 ≤ badK (cls 1) 0 s
  · rw [if_pos h3]
    have : s.all (cls 1) = false := by
      have := (badK_ge (cls 1) 0 s).1 h3
      simpa using this
    rw [this]; rfl
  · rw [if_neg h3]
    have : s.all (cls 1) = true := Classical.byContradiction fun hh => h3 ((badK_ge _ _ _).2 hh)
    rw [this]; rfl
theorem name_ref (n : Nat) (hn : 200000 ≤ n) (s : List UInt8) (hs : s.length ≤ 10000) : F.ref07_Name n s = some (nameOK s) := by
  unfold F.ref07_Name
  have L := name_ref_loop n Bool (fun e2_0 => bif decide ((e2_0.length : Int) ≥ (1 : Int)) then some (decide ((e2_0.length : Int) ≤ (200 : Int))) else some (false)) (fun e3_2 => some (e3_2)) s hs s 0 n rfl (by omega)
  refine L.trans ?_
  rw [nameOK_eq]
  cases h : s.all (cls 1)
  · rfl
  · rw [if_pos rfl]
    by_cases h1 : 1 ≤ s.length
    · rw [bif_pos (by omega), decide_eq_true h1]
      have e2 : decide ((s.length : Int) ≤ 200) = decide (s.length ≤ 200) := by apply decide_eq_decide.2; omega
      rw [e2]; rfl
    · rw [bif_neg (by omega), decide_eq_false h1]; rfl
theorem rest_loop (n : Nat) (hn : 200000 ≤ n) (X : Type) (k0 : List UInt8 → Int → List DecL → Int → List TagL → Int → Option X) (kr : Int → List UInt8 → Int → List DecL → Int → List TagL → Int → Option X) (vs : List TagL) (hs : vs.length ≤ 10000) (hok : ∀ d ∈ vs, TagLOK d) (b0 : List UInt8) (b1 : Int) (b2 : List DecL) (b3 : Int) (b5 : Int) : ∀ (r : List TagL) (k m : Nat), vs.drop k = r → r.length < m →
    F.ref07_Rest.L12 n k0 kr m (k : Int) b0 b1 b2 b3 vs b5 = bif r.all tagGood then k0 b0 b1 b2 b3 vs b5 else kr 19 b0 b1 b2 b3 vs b5 := by
  intro r
  induction r with
  | nil =>
    intro k m hk hm
    have := drop_nil' hk
    cases m with
    | zero => simp at hm
    | succ m =>
      show F.ref07_Rest.L12.step n (F.ref07_Rest.L12 n k0 kr m) k0 kr _ _ _ _ _ _ _ = _
      unfold F.ref07_Rest.L12.step
      rw [bif_neg (by omega)]
      rfl
  | cons x r ih =>
    intro k m hk hm
    obtain ⟨h1, h2, h3⟩ := drop_cons hk
    have hx : TagLOK x := hok x (List.mem_of_getElem? h2)
    cases m with
    | zero => simp at hm
    | succ m =>
      show F.ref07_Rest.L12.step n (F.ref07_Rest.L12 n k0 kr m) k0 kr _ _ _ _ _ _ _ = _
      unfold F.ref07_Rest.L12.step
      rw [bif_pos (by omega), idx_nat, h2]
      simp only [some_bind', tag_ref n hn hx, List.all_cons]
      cases h : tagGood x
      · rfl
      · rw [wrap_succ (by omega), ih (k + 1) m h3 (by simp at hm; omega)]; rfl
def restM (m : MetD) (vals : Bool) : Int :=
  bif !nameOK m.1 then 15 else bif !kindB m.2.1 then 16 else bif !(vals && (decide (1 ≤ m.2.2.1.length) && decide (m.2.2.1.length ≤ 64))) then 17 else bif !rateB m.2.1 m.2.2.2.1 then 18 else bif !tagsB m.2.2.2.2.1 then 19 else bif !timeB m.2.2.2.2.2.1 then 20 else 0
theorem chk_rest (m : MetD) : chkM m = restM m (m.2.2.1.all fun d => decC d == 0) := by
  unfold chkM restM valsB
  cases decide (1 ≤ m.2.2.1.length) <;> cases decide (m.2.2.1.length ≤ 64) <;> cases (m.2.2.1.all fun d => decC d == 0) <;> rfl
theorem rest_ref (n : Nat) (hn : 200000 ≤ n) (m : MetD) (h1 : m.1.length ≤ 10000) (h2 : m.2.2.2.2.1.length ≤ 10000) (h3 : ∀ t ∈ m.2.2.2.2.1, TagLOK t) (vals : Bool) : F.ref07_Rest n m vals = some (restM m vals) := by
  obtain ⟨nm, k, vs, r, ts, t, _⟩ := m
  simp only at h1 h2 h3
  unfold F.ref07_Rest restM
  simp only [name_ref n hn nm h1, some_bind']
  cases nameOK nm
  · rfl
  simp only [Bool.not_true, cond_false]
  unfold kindB
  by_cases k1 : k < 1
  · rw [bif_pos k1, decide_eq_false (by omega : ¬ 1 ≤ k)]; rfl
  rw [bif_neg k1, decide_eq_true (by omega : 1 ≤ k)]
  by_cases k2 : k > 5
  · rw [bif_pos k2, decide_eq_false (by omega : ¬ k ≤ 5)]; rfl
  rw [bif_neg k2, decide_eq_true (by omega : k ≤ 5)]
  simp only [Bool.and_self, Bool.not_true, cond_false]
  cases vals
  · rfl
  simp only [Bool.not_true, cond_false, Bool.true_and]
  by_cases v1 : (vs.length : Int) < 1
  · rw [bif_pos v1, decide_eq_false (by omega : ¬ 1 ≤ vs.length)]; rfl
  rw [bif_neg v1, decide_eq_true (by omega : 1 ≤ vs.length)]
  by_cases v2 : (vs.length : Int) > 64
  · rw [bif_pos v2, decide_eq_false (by omega : ¬ vs.length ≤ 64)]; rfl
  rw [bif_neg v2, decide_eq_true (by omega : vs.length ≤ 64)]
  simp only [Bool.and_self, Bool.not_true, cond_false]
  unfold rateB
  by_cases r1 : r < 1
  · rw [bif_pos r1, decide_eq_false (by omega : ¬ 1 ≤ r)]; rfl
  rw [bif_neg r1, decide_eq_true (by omega : 1 ≤ r)]
  by_cases r2 : r > 1000000
  · rw [bif_pos r2, decide_eq_false (by omega : ¬ r ≤ 1000000)]; rfl
  rw [bif_neg r2, decide_eq_true (by omega : r ≤ 1000000)]
  simp only [Bool.true_and]
  have tail : (bif decide ((ts.length : Int) > (32 : Int)) then some (19 : Int) else
        F.ref07_Rest.L12 n
          (fun e4_b0_0 e4_b0_1 e4_b0_2 e4_b0_3 e4_b0_4 e4_b0_5 =>
            bif decide (e4_b0_5 < (0 : Int)) then some ((20 : Int)) else bif decide (e4_b0_5 > (1099511627776 : Int)) then some ((20 : Int)) else some ((0 : Int)))
          (fun e5_4 e5_b0_0 e5_b0_1 e5_b0_2 e5_b0_3 e5_b0_4 e5_b0_5 => some (e5_4)) n (0 : Int) nm k vs r ts t) = some (bif !tagsB ts then 19 else bif !timeB t then 20 else 0) := by
    unfold tagsB timeB
    by_cases t1 : (ts.length : Int) > 32
    · rw [bif_pos t1, decide_eq_false (by omega : ¬ ts.length ≤ 32)]; rfl
    rw [bif_neg t1, decide_eq_true (by omega : ts.length ≤ 32)]
    refine (rest_loop n hn Int _ _ ts h2 h3 nm k vs r t ts 0 n rfl (by omega)).trans ?_
    cases ts.all tagGood
    · rfl
    · rw [cond_true]
      by_cases u1 : t < 0
      · rw [bif_pos u1, decide_eq_false (by omega : ¬ 0 ≤ t)]; rfl
      rw [bif_neg u1, decide_eq_true (by omega : 0 ≤ t)]
      by_cases u2 : t > 1099511627776
      · rw [bif_pos u2, decide_eq_false (by omega : ¬ t ≤ 1099511627776)]; rfl
      rw [bif_neg u2, decide_eq_true (by omega : t ≤ 1099511627776)]
      rfl
  cases hk : (k == 2)
  · exact tail
  · cases hr : (r == 1000000)
    · rfl
    · exact tail
end Go.AM
set_option linter.unusedVariables false
set_option linter.unusedSimpArgs false
namespace Go.AM
theorem check_ref (n : Nat) (hn : 200000 ≤ n) (neg : Bool) (c : Nat) (hc : c < two64) (e : Int) : F.ref03_Check n (neg, (c : Int), e, ()) = some (checkR neg c e) := by
  unfold F.ref03_Check checkR
  have hl := dd_len64 hc
  simp only [digits03 n (by omega) c hc, make_eq n hn neg _ (dd_digs c) (by omega) e, some_bind']
  have T := check_tail neg c e _ rfl
  have T' : (bif !((valR neg (Lib.decDigits c) e).2.1 == 0) then some (21 : Int) else bif !(((valR neg (Lib.decDigits c) e).1.1 == neg) && (((valR neg (Lib.decDigits c) e).1.2.1 == (c : Int)) && ((valR neg (Lib.decDigits c) e).1.2.2.1 == e))) then some ((21 : Int)) else some ((0 : Int))) = _ := T
  by_cases h0 : c = 0
  · have e0 : (((c : Int)) == 0) = true := by simp [h0]
    rw [e0, if_neg (fun h => h.1 h0)]
    exact T'
  · have e0 : (((c : Int)) == 0) = false := by simpa using h0
    rw [e0]
    simp only [Bool.not_false, cond_true]
    by_cases h1 : e < -18
    · rw [bif_pos h1, if_pos ⟨h0, Or.inl h1⟩]
    · rw [bif_neg h1]
      by_cases h2 : e > 18
      · rw [bif_pos h2, if_pos ⟨h0, Or.inr h2⟩]
      · rw [bif_neg h2, if_neg (by omega)]
        exact T'
end Go.AM
set_option linter.unusedVariables false
set_option linter.unusedSimpArgs false
namespace Go.AM
theorem decC_ref (n : Nat) (hn : 200000 ≤ n) {d : DecL} (h : DecLOK d) : F.ref03_Check n (d.1, d.2.1, d.2.2, ()) = some (decC d) := by
  obtain ⟨neg, c, e, rfl, hc, he⟩ := decL_nat h
  exact check_ref n hn neg c hc e
theorem check_loop (n : Nat) (hn : 200000 ≤ n) (X : Type) (k0 : Bool → List UInt8 → Int → List DecL → Int → List TagL → Int → Option X) (vs : List DecL) (hs : vs.length ≤ 10000) (hok : ∀ d ∈ vs, DecLOK d) (b0 : List UInt8) (b1 : Int) (b3 : Int) (b4 : List TagL) (b5 : Int) : ∀ (r : List DecL) (k m : Nat) (v : Bool), vs.drop k = r → r.length < m →
    F.ref07_Check.L3 n k0 m v (k : Int) b0 b1 vs b3 b4 b5 = k0 (v && r.all fun d => decC d == 0) b0 b1 vs b3 b4 b5 := by
  intro r
  induction r with
  | nil =>
    intro k m v hk hm
    have := drop_nil' hk
    cases m with
    | zero => simp at hm
    | succ m =>
      show F.ref07_Check.L3.step n (F.ref07_Check.L3 n k0 m) k0 v _ _ _ _ _ _ _ = _
      unfold F.ref07_Check.L3.step
      rw [bif_neg (by omega)]
      cases v <;> rfl
  | cons x r ih =>
    intro k m v hk hm
    obtain ⟨h1, h2, h3⟩ := drop_cons hk
    have hx : DecLOK x := hok x (List.mem_of_getElem? h2)
    cases m with
    | zero => simp at hm
    | succ m =>
      show F.ref07_Check.L3.step n (F.ref07_Check.L3 n k0 m) k0 v _ _ _ _ _ _ _ = _
      unfold F.ref07_Check.L3.step
      rw [bif_pos (by omega), wrap_succ (by omega)]
      cases v
      · rw [cond_false, ih (k + 1) m _ h3 (by simp at hm; omega)]; rfl
      · rw [cond_true, idx_nat, h2]
        simp only [some_bind', decC_ref n hn hx, List.all_cons, Bool.true_and]
        rw [ih (k + 1) m _ h3 (by simp at hm; omega)]
theorem metcheck_ref (n : Nat) (hn : 200000 ≤ n) (m : MetD) (hm : MetOK m) : F.ref07_Check n m = some (chkM m) := by
  have hr := rest_ref n hn m hm.1 hm.2.2.1 hm.2.2.2 (m.2.2.1.all fun d => decC d == 0)
  have h2 := hm.2.1
  rw [chk_rest]
  obtain ⟨nm, k, vs, r, ts, t, _⟩ := m
  simp only at hr h2 ⊢
  unfold F.ref07_Check
  refine (check_loop n hn Int _ vs h2.1 h2.2 nm k r ts t vs 0 n true rfl (by have := h2.1; omega)).trans ?_
  rw [Bool.true_and, hr]
  rfl
def bareM (m : MetD) : Bool := decide (m.2.2.1.length = 1) && decide (m.2.2.2.2.1.length = 0)
def negM (m : MetD) : Bool := match m.2.2.1 with | [] => false | d :: _ => d.1
def saysS (m : MetD) : Bool := bareM m && ((m.2.2.2.2.2.1 == 0) && (!(m.2.1 == 5) && (!(m.2.1 == 2) || !negM m)))
def saysG (m : MetD) : Bool := bareM m && (!(m.2.2.2.2.2.1 == 0) && (m.2.1 == 2))
def saysM (m : MetD) (f : Int) : Bool := if f = 1 then saysS m else if f = 3 then saysG m else true
def expM (m : MetD) (f : Int) : Int := if f < 1 ∨ f > 4 then 29 else if chkM m = 0 then (bif saysM m f then 0 else 26) else chkM m
theorem len_int (l : List DecL) (k : Nat) : (((l.length : Nat) : Int) == ((k : Nat) : Int)) = decide (l.length = k) := by
  by_cases h : l.length = k
  · rw [h]; simp
  · rw [decide_eq_false h, beq_eq_false_iff_ne]; omega
theorem len_intT (l : List TagL) (k : Nat) : (((l.length : Nat) : Int) == ((k : Nat) : Int)) = decide (l.length = k) := by
  by_cases h : l.length = k
  · rw [h]; simp
  · rw [decide_eq_false h, beq_eq_false_iff_ne]; omega
theorem bare_eq (n : Nat) (m : MetD) : F.expr_said_bare n m = some (bareM m) := by
  have h1 := len_int m.2.2.1 1
  have h2 := len_intT m.2.2.2.2.1 0
  unfold F.expr_said_bare bareM
  rw [show (1 : Int) = ((1 : Nat) : Int) from rfl, show (0 : Int) = ((0 : Nat) : Int) from rfl, h1, h2]
  cases decide (m.2.2.1.length = 1) <;> rfl
theorem neg_idx {m : MetD} (h : bareM m = true) : ∃ d, idx m.2.2.1 (0 : Int) = some d ∧ negM m = d.1 := by
  unfold bareM at h
  obtain ⟨nm, k, vs, r, ts, t, _⟩ := m
  match vs, h with
  | [d], _ => exact ⟨d, rfl, rfl⟩
theorem said_s (n : Nat) (m : MetD) : F.expr_said_statsd n m = some (saysS m) := by
  unfold F.expr_said_statsd saysS
  have hb : F.expr_said_bare n (m.1, m.2.1, m.2.2.1, m.2.2.2.1, m.2.2.2.2.1, m.2.2.2.2.2.1, ()) = some (bareM m) := bare_eq n m
  rw [hb, some_bind']
  cases h : bareM m
  · rfl
  simp only [Bool.not_true, cond_false, Bool.true_and]
  obtain ⟨d, hd, hg⟩ := neg_idx h
  rw [hd, hg]
  cases (m.2.2.2.2.2.1 == 0) <;> cases (m.2.1 == 5) <;> cases (m.2.1 == 2) <;> rfl
theorem said_g (n : Nat) (m : MetD) : F.expr_said_graphite n m = some (saysG m) := by
  unfold F.expr_said_graphite saysG
  have hb : F.expr_said_bare n (m.1, m.2.1, m.2.2.1, m.2.2.2.1, m.2.2.2.2.1, m.2.2.2.2.2.1, ()) = some (bareM m) := bare_eq n m
  rw [hb, some_bind']
  cases bareM m <;> cases (m.2.2.2.2.2.1 == 0) <;> rfl
theorem says_ref (n : Nat) (m : MetD) (f : Int) : F.ref09_Says n m f = some (saysM m f) := by
  unfold F.ref09_Says saysM saysS saysG
  have h1 := len_int m.2.2.1 1
  have h2 := len_intT m.2.2.2.2.1 0
  have e1 : ((m.2.2.1.length : Int) == (1 : Int)) = decide (m.2.2.1.length = 1) := h1
  have e2 : ((m.2.2.2.2.1.length : Int) == (0 : Int)) = decide (m.2.2.2.2.1.length = 0) := h2
  rw [e1, e2]
  by_cases f1 : f = 1
  · subst f1
    simp only [beq_self_eq_true, cond_true, if_true]
    cases hb : bareM m
    · unfold bareM at hb
      cases g1 : decide (m.2.2.1.length = 1)
      · rfl
      · rw [g1, Bool.true_and] at hb
        rw [hb]; rfl
    · obtain ⟨d, hd, hg⟩ := neg_idx hb
      unfold bareM at hb
      rw [Bool.and_eq_true] at hb
      rw [hb.1, hb.2, hd, hg]
      cases (m.2.2.2.2.2.1 == 0) <;> cases (m.2.1 == 5) <;> cases (m.2.1 == 2) <;> rfl
  · rw [beq_eq_false_iff_ne.2 f1, if_neg f1]
    by_cases f3 : f = 3
    · subst f3
      simp only [beq_self_eq_true, cond_true, cond_false, if_true]
      unfold bareM
      cases decide (m.2.2.1.length = 1) <;> cases decide (m.2.2.2.2.1.length = 0) <;> cases (m.2.2.2.2.2.1 == 0) <;> rfl
    · rw [beq_eq_false_iff_ne.2 f3, if_neg f3]
      cases decide (m.2.2.1.length = 1) <;> rfl
theorem expm_eq (n : Nat) (hn : 200000 ≤ n) (m : MetD) (hm : MetOK m) (f : Int) : F.expr_Metric n m f = some (expM m f) := by
  have hc : F.metric_Check n (m.1, m.2.1, m.2.2.1, m.2.2.2.1, m.2.2.2.2.1, m.2.2.2.2.2.1, ()) = some (chkM m) := metcheck_eq n hn m hm
  have hs : F.expr_said_statsd n (m.1, m.2.1, m.2.2.1, m.2.2.2.1, m.2.2.2.2.1, m.2.2.2.2.2.1, ()) = some (saysS m) := said_s n m
  have hg : F.expr_said_graphite n (m.1, m.2.1, m.2.2.1, m.2.2.2.1, m.2.2.2.2.1, m.2.2.2.2.2.1, ()) = some (saysG m) := said_g n m
  unfold F.expr_Metric expM
  rw [hc, hs, hg]
  simp only [some_bind']
  by_cases h : f < 1 ∨ f > 4
  · rw [if_pos h, beq_eq_false_iff_ne.2 (by omega : f ≠ 1), beq_eq_false_iff_ne.2 (by omega : f ≠ 2), beq_eq_false_iff_ne.2 (by omega : f ≠ 3), beq_eq_false_iff_ne.2 (by omega : f ≠ 4)]
    rfl
  rw [if_neg h]
  by_cases h0 : chkM m = 0
  · rw [if_pos h0, h0]
    rcases (by omega : f = 1 ∨ f = 2 ∨ f = 3 ∨ f = 4) with rfl | rfl | rfl | rfl
    · show (bif !saysS m then some 26 else some 0) = some (bif saysS m then 0 else 26)
      cases saysS m <;> rfl
    · rfl
    · show (bif !saysG m then some 26 else some 0) = some (bif saysG m then 0 else 26)
      cases saysG m <;> rfl
    · rfl
  · rw [if_neg h0, beq_eq_false_iff_ne.2 h0]
    rcases (by omega : f = 1 ∨ f = 2 ∨ f = 3 ∨ f = 4) with rfl | rfl | rfl | rfl <;> rfl
end Go.AM
set_option linter.unusedVariables false
set_option linter.unusedSimpArgs false
namespace Go.AM
theorem text_zeros (n : Nat) (X : Type) (k0 : (List UInt8) → Bool → Int → Int → Option X) (neg : Bool) (c e : Int) : ∀ (j i m : Nat) (v : List UInt8), ((i : Int) + j = e ∨ j = 0 ∧ e ≤ i) → j < m → i + j ≤ 1000 → v.length + j ≤ 100000 → F.ref03_Text.L3 n k0 m v (i : Int) neg c e = k0 (v ++ List.replicate j 48) neg c e := by
  intro j
  induction j with
  | zero =>
    intro i m v h hm hi hv
    obtain ⟨m, rfl⟩ : ∃ q, m = q + 1 := ⟨m - 1, by omega⟩
    show F.ref03_Text.L3.step n _ k0 _ _ _ _ _ = _
    unfold F.ref03_Text.L3.step
    rw [bif_neg (by omega), List.replicate_zero, List.append_nil]
  | succ j ih =>
    intro i m v h hm hi hv
    obtain ⟨m, rfl⟩ : ∃ q, m = q + 1 := ⟨m - 1, by omega⟩
    show F.ref03_Text.L3.step n (F.ref03_Text.L3 n k0 m) k0 _ _ _ _ _ = _
    unfold F.ref03_Text.L3.step
    rw [bif_pos (by omega), bif_pos (by rw [strMax_eq]; omega), wrap_succ (by omega), ih (i + 1) m _ (by omega) (by omega) (by omega) (by simp; omega), List.append_assoc, List.replicate_succ]
    rfl
theorem text_pad (n : Nat) (X : Type) (k2 : (List UInt8) → Bool → Int → Int → Option X) (neg : Bool) (c e : Int) (he : -100 ≤ e ∧ e < 0) : ∀ (j m : Nat) (v : List UInt8), ((v.length : Int) + j = 1 - e ∨ j = 0 ∧ 1 - e ≤ v.length) → j < m → v.length + j ≤ 100000 → F.ref03_Text.L7 n k2 m v neg c e = k2 (List.replicate j 48 ++ v) neg c e := by
  intro j
  induction j with
  | zero =>
    intro m v h hm hv
    obtain ⟨m, rfl⟩ : ∃ q, m = q + 1 := ⟨m - 1, by omega⟩
    show F.ref03_Text.L7.step n _ k2 _ _ _ _ = _
    unfold F.ref03_Text.L7.step
    rw [wrap_in (by omega), bif_neg (by omega)]
    rfl
  | succ j ih =>
    intro m v h hm hv
    obtain ⟨m, rfl⟩ : ∃ q, m = q + 1 := ⟨m - 1, by omega⟩
    show F.ref03_Text.L7.step n (F.ref03_Text.L7 n k2 m) k2 _ _ _ _ = _
    unfold F.ref03_Text.L7.step
    rw [wrap_in (by omega), bif_pos (by omega), bif_pos (by rw [strMax_eq]; omega), ih m _ (by simp; omega) (by omega) (by simp; omega), List.replicate_succ', List.append_assoc]
theorem text_ref (n : Nat) (hn : 200000 ≤ n) (neg : Bool) (c : Nat) (hc : c < two64) (e : Int) (he : -18 ≤ e ∧ e ≤ 18) : F.ref03_Text n (neg, (c : Int), e, ()) = some (textD neg c e) := by
  unfold F.ref03_Text
  have hl := dd_len64 hc
  simp only [digits03 n (by omega) c hc, some_bind']
  have hz := text_zeros n (List UInt8) (fun e2_3 e2_b0_0 e2_b0_1 e2_b0_2 =>
        bif decide (e2_b0_2 < (0 : Int)) then
          F.ref03_Text.L7 n
            (fun e3_3 e3_b0_0 e3_b0_1 e3_b0_2 =>
              (sub e3_3 (0 : Int) (IntKind.wrap .i64 ((e3_3.length : Int) + e3_b0_2))).bind fun x4 =>
                bif decide (x4.length + 1 ≤ strMax) then
                  (sub e3_3 (IntKind.wrap .i64 ((e3_3.length : Int) + e3_b0_2)) (e3_3.length : Int)).bind fun x5 =>
                    bif decide (((x4 ++ ([46])).length) + x5.length ≤ strMax) then
                      bif e3_b0_0 then
                        bif decide (1 + (((x4 ++ ([46])) ++ x5).length) ≤ strMax) then
                          some (([45]) ++ ((x4 ++ ([46])) ++ x5))
                        else
                          none
                      else
                        some ((x4 ++ ([46])) ++ x5)
                    else
                      none
                else
                  none) n e2_3 e2_b0_0 e2_b0_1 e2_b0_2
        else
        bif e2_b0_0 then
          bif decide (1 + e2_3.length ≤ strMax) then
            some (([45]) ++ e2_3)
          else
            none
        else
          some (e2_3)) neg (c : Int) e e.toNat 0 n (Lib.decDigits c) (by omega) (by omega) (by omega) (by omega)
  refine hz.trans ?_
  unfold textD
  by_cases hE : 0 ≤ e
  · rw [bif_neg (by omega), if_pos hE]
    cases neg
    · rfl
    · rw [cond_true, bif_pos (by rw [strMax_eq]; simp; omega)]
      rfl
  · obtain ⟨w1, w2, w3⟩ := wideW_len c hc e (by omega)
    have hwl : (List.replicate (1 - e - (Lib.decDigits c).length).toNat (48 : UInt8)).length + (Lib.decDigits c).length = (wideW c e).length := by unfold wideW; simp
    have hww : List.replicate (1 - e - (Lib.decDigits c).length).toNat (48 : UInt8) ++ Lib.decDigits c = wideW c e := rfl
    rw [bif_pos (by omega), if_neg hE, show e.toNat = 0 from by omega, List.replicate_zero, List.append_nil, text_pad n _ _ neg (c : Int) e (by omega) (1 - e - (Lib.decDigits c).length).toNat n _ (by omega) (by omega) (by omega), hww]
    generalize wideW c e = w at w1 w2 w3
    have hat : IntKind.wrap .i64 ((w.length : Int) + e) = ((w.length - e.natAbs : Nat) : Int) := by rw [wrap_in (by omega)]; omega
    rw [hat]
    have s1 : sub w 0 ((w.length - e.natAbs : Nat) : Int) = some (w.take (w.length - e.natAbs)) := by
      have := sub_nat w 0 (w.length - e.natAbs) (by omega) (by omega)
      rw [List.drop_zero] at this
      exact this
    have s2 : sub w ((w.length - e.natAbs : Nat) : Int) (w.length : Int) = some (w.drop (w.length - e.natAbs)) := by
      have := sub_nat w (w.length - e.natAbs) w.length (by omega) (Nat.le_refl _)
      rw [List.take_length] at this
      exact this
    rw [s1, some_bind', bif_pos (by rw [strMax_eq]; simp; omega), s2, some_bind', bif_pos (by rw [strMax_eq]; simp; omega)]
    cases neg
    · rfl
    · rw [cond_true, bif_pos (by rw [strMax_eq]; simp; omega)]
      rfl
end Go.AM
set_option linter.unusedVariables false
set_option linter.unusedSimpArgs false
namespace Go.AM
def MetWf (m : MetD) : Prop := (∀ d ∈ m.2.2.1, DecLOK d)
def valL : List DecL → List UInt8
  | [] => []
  | d :: _ => textD d.1 d.2.1.toNat d.2.2
theorem chk_zero {m : MetD} (h : chkM m = 0) : nameOK m.1 = true ∧ kindB m.2.1 = true ∧ valsB m.2.2.1 = true ∧ rateB m.2.1 m.2.2.2.1 = true ∧ tagsB m.2.2.2.2.1 = true ∧ timeB m.2.2.2.2.2.1 = true := by
  unfold chkM at h
  revert h
  cases nameOK m.1 <;> cases kindB m.2.1 <;> cases valsB m.2.2.1 <;> cases rateB m.2.1 m.2.2.2.1 <;> cases tagsB m.2.2.2.2.1 <;> cases timeB m.2.2.2.2.2.1 <;> simp
theorem textD_le {d : DecL} (hd : DecLOK d) (h : decC d = 0) : (textD d.1 d.2.1.toNat d.2.2).length ≤ 39 := by
  obtain ⟨neg, c, e, rfl, hc, he⟩ := decL_nat hd
  exact (text_len neg c hc e (check_zero h).2).1
theorem decText_eq (n : Nat) (hn : 200000 ≤ n) {d : DecL} (hd : DecLOK d) (h : decC d = 0) : F.dec_Text n (d.1, d.2.1, d.2.2, ()) = some (textD d.1 d.2.1.toNat d.2.2, 0, ()) := by
  obtain ⟨neg, c, e, rfl, hc, he⟩ := decL_nat hd
  have h' : checkR neg c e = 0 := h
  have := text_dec n hn neg c hc e he
  rw [if_pos h'] at this
  exact this
theorem decText_ref (n : Nat) (hn : 200000 ≤ n) {d : DecL} (hd : DecLOK d) (h : decC d = 0) : F.ref03_Text n (d.1, d.2.1, d.2.2, ()) = some (textD d.1 d.2.1.toNat d.2.2) := by
  obtain ⟨neg, c, e, rfl, hc, he⟩ := decL_nat hd
  exact text_ref n hn neg c hc e (check_zero h).2
end Go.AM
set_option linter.unusedVariables false
set_option linter.unusedSimpArgs false
namespace Go.AM
theorem small_loop (n : Nat) (X : Type) (k0 : List UInt8 → Int → List DecL → Int → List TagL → Int → Option X) (kr : Bool → List UInt8 → Int → List DecL → Int → List TagL → Int → Option X) (vs : List TagL) (hs : vs.length ≤ 140737488351232) (b0 : List UInt8) (b1 : Int) (b2 : List DecL) (b3 : Int) (b5 : Int) : ∀ (j k m : Nat), k + j = 51 → j < m →
    F.law10_Small.L2 n k0 kr m (k : Int) b0 b1 b2 b3 vs b5 = bif ((vs.drop k).take j).all (fun t => decide (t.1.length ≤ 200) && decide (t.2.length ≤ 200)) then k0 b0 b1 b2 b3 vs b5 else kr false b0 b1 b2 b3 vs b5 := by
  intro j
  induction j with
  | zero =>
    intro k m hk hm
    obtain ⟨m, rfl⟩ : ∃ q, m = q + 1 := ⟨m - 1, by omega⟩
    show F.law10_Small.L2.step n (F.law10_Small.L2 n k0 kr m) k0 kr _ _ _ _ _ _ _ = _
    unfold F.law10_Small.L2.step
    rw [bif_neg (by omega : ¬ (k : Int) < 51)]
    by_cases h : (k : Int) < (vs.length : Int)
    · rw [bif_pos h]; rfl
    · rw [bif_neg h]; rfl
  | succ j ih =>
    intro k m hk hm
    obtain ⟨m, rfl⟩ : ∃ q, m = q + 1 := ⟨m - 1, by omega⟩
    show F.law10_Small.L2.step n (F.law10_Small.L2 n k0 kr m) k0 kr _ _ _ _ _ _ _ = _
    unfold F.law10_Small.L2.step
    rw [bif_pos (by omega : (k : Int) < 51)]
    by_cases h : k < vs.length
    · rw [bif_pos (by omega), idx_lt h]
      have hd : vs.drop k = vs[k] :: vs.drop (k + 1) := List.drop_eq_getElem_cons h
      simp only [some_bind', hd, List.take_succ_cons, List.all_cons]
      rw [wrap_succ (by omega), ih (k + 1) m (by omega) (by omega)]
      by_cases h1 : vs[k].1.length ≤ 200
      · rw [bif_neg (by omega), decide_eq_true h1]
        by_cases h2 : vs[k].2.length ≤ 200
        · rw [bif_neg (by omega), decide_eq_true h2]; rfl
        · rw [bif_pos (by omega), decide_eq_false h2]; rfl
      · rw [bif_pos (by omega), decide_eq_false h1]; rfl
    · rw [bif_neg (by omega), List.drop_eq_nil_of_le (by omega)]; rfl
def smallB (m : MetD) : Bool := (m.2.2.2.2.1.take 51).all (fun t => decide (t.1.length ≤ 200) && decide (t.2.length ≤ 200)) && (decide (m.1.length ≤ 300) && (decide (m.2.2.1.length ≤ 80) && decide (m.2.2.2.2.1.length ≤ 50)))
theorem small_eq (n : Nat) (hn : 200000 ≤ n) (m : MetD) (hs : m.2.2.2.2.1.length ≤ 140737488351232) : F.law10_Small n m = some (smallB m) := by
  obtain ⟨nm, k, vs, r, ts, t, _⟩ := m
  simp only at hs
  unfold F.law10_Small smallB
  refine (small_loop n Bool _ _ ts hs nm k vs r t 51 0 n (by omega) (by omega)).trans ?_
  rw [List.drop_zero]
  simp only
  cases (ts.take 51).all (fun t => decide (t.1.length ≤ 200) && decide (t.2.length ≤ 200))
  · rfl
  · rw [cond_true]
    have e1 : decide ((nm.length : Int) ≤ 300) = decide (nm.length ≤ 300) := by apply decide_eq_decide.2; omega
    have e2 : decide ((vs.length : Int) ≤ 80) = decide (vs.length ≤ 80) := by apply decide_eq_decide.2; omega
    have e3 : decide ((ts.length : Int) ≤ 50) = decide (ts.length ≤ 50) := by apply decide_eq_decide.2; omega
    rw [e1, e2, e3]
    cases decide (nm.length ≤ 300) <;> cases decide (vs.length ≤ 80) <;> rfl
theorem small_ok {m : MetD} (hw : MetWf m) (h : smallB m = true) : MetOK m ∧ m.1.length ≤ 300 := by
  unfold smallB at h
  simp only [Bool.and_eq_true, decide_eq_true_eq] at h
  obtain ⟨h1, h2, h3, h4⟩ := h
  refine ⟨⟨by omega, ⟨by omega, hw⟩, by omega, fun t ht => ?_⟩, h2⟩
  rw [List.take_of_length_le (by omega)] at h1
  have := List.all_eq_true.1 h1 t ht
  simp only [Bool.and_eq_true, decide_eq_true_eq] at this
  exact ⟨by omega, by omega⟩
end Go.AM
set_option linter.unusedVariables false
set_option linter.unusedSimpArgs false
namespace Go.AM
theorem digits_ref_go (n : Nat) : ∀ (m u : Nat), u < 18446744073709551616 → Lib.nDigits u ≤ m → F.ref05_Digits.go n m (u : Int) = some (Lib.decDigits u) := by
  intro m
  induction m with
  | zero =>
    intro u _ h
    have := Lib.nDigits_pos u
    omega
  | succ m ih =>
    intro u hu h
    have one : ∀ d : Nat, d < 10 → sub ([48, 49, 50, 51, 52, 53, 54, 55, 56, 57] : List UInt8) (d : Int) ((d + 1 : Nat) : Int) = some [UInt8.ofNat (48 + d)] := by
      intro d hd
      rw [sub_nat _ _ _ (by omega) (by simp; omega)]
      have := (by decide : ∀ d : Fin 10, (([48, 49, 50, 51, 52, 53, 54, 55, 56, 57] : List UInt8).take (d.val + 1)).drop d.val = [UInt8.ofNat (48 + d.val)]) ⟨d, hd⟩
      rw [this]
    show (bif decide ((u : Int) < 10) then _ else _) = _
    by_cases h1 : u < 10
    · rw [bif_pos (by omega), show IntKind.wrap .u64 ((u : Int) + 1) = ((u + 1 : Nat) : Int) from by rw [IntWalk.u64_in _ (by omega)]; omega, one u h1, some_bind', dd_small h1]
    · rw [bif_neg (by omega)]
      have e1 : (u : Int).tdiv 10 = ((u / 10 : Nat) : Int) := rfl
      have e2 : (u : Int).tmod 10 = ((u % 10 : Nat) : Int) := rfl
      have hN := Lib.nDigits_big h1
      rw [e1, e2, IntWalk.u64_in _ (by omega), ih (u / 10) (by omega) (by omega), some_bind', show IntKind.wrap .u64 (((u % 10 : Nat) : Int) + 1) = ((u % 10 + 1 : Nat) : Int) from by rw [IntWalk.u64_in _ (by omega)]; omega, one (u % 10) (by omega), some_bind', dd_big h1, bif_pos]
      have := Lib.nDigits_le20 (u / 10) (by omega)
      rw [dd_length, strMax_eq]
      simp; omega
theorem digits_ref (n : Nat) (hn : 20 ≤ n) (u : Nat) (hu : u < 18446744073709551616) : F.ref05_Digits n (u : Int) = some (Lib.decDigits u) := by
  unfold F.ref05_Digits
  exact digits_ref_go n n u hu (Nat.le_trans (Lib.nDigits_le20 u hu) hn)
end Go.AM
set_option linter.unusedVariables false
set_option linter.unusedSimpArgs false
namespace Go.AM
def pad6 (k : Nat) : List UInt8 := (Lib.decDigits (1000000 + k)).drop 1
theorem pad6_all {k : Nat} (h : k < 1000000) : Lib.decDigits (1000000 + k) = 49 :: pad6 k ∧ (pad6 k).length = 6 ∧ Digs (pad6 k) ∧ val (pad6 k) = k := by
  have hN : (Lib.decDigits (1000000 + k)).length = 7 := by rw [dd_length]; exact Lib.nDigits_unique 6 _ (by omega) (by omega)
  have hd := dd_digs (1000000 + k)
  have hv := dd_val (1000000 + k)
  unfold pad6
  cases e : Lib.decDigits (1000000 + k) with
  | nil => rw [e] at hN; simp at hN
  | cons b r =>
    rw [e] at hN hd hv
    have hr : r.length = 6 := by simpa using hN
    obtain ⟨d1, d2⟩ := digs_cons.1 hd
    have := val_lt d2
    rw [hr] at this
    rw [val_cons, hr] at hv
    have hb : dv b = 1 := by omega
    have : b = 49 := dv_inj d1 rfl hb
    subst this
    refine ⟨rfl, hr, d2, ?_⟩
    show val r = k
    omega
def rateText (k : Int) : List UInt8 × Int × Unit :=
  if k < 1 ∨ k > 1000000 then ([], 10, ()) else if k = 1000000 then ([49], 0, ()) else ([48, 46] ++ trz (pad6 k.toNat), 0, ())
theorem rateText_num (n : Nat) (k : Int) : F.num_RateText n k = some (rateText k) := by
  unfold F.num_RateText rateText
  by_cases h1 : k < 1
  · rw [bif_pos h1, if_pos (Or.inl h1)]
  rw [bif_neg h1]
  by_cases h2 : k > 1000000
  · rw [bif_pos h2, if_pos (Or.inr h2)]
  rw [bif_neg h2, if_neg (by omega)]
  by_cases h3 : k = 1000000
  · subst h3; rfl
  have e3 : (k == 1000000) = false := by simpa using h3
  rw [e3, cond_false, if_neg h3, wrap_in (by omega)]
  obtain ⟨p1, p2, p3, p4⟩ := pad6_all (k := k.toNat) (by omega)
  have hi : O.itoa n (1000000 + k) = some (49 :: pad6 k.toNat) := by
    unfold O.itoa
    have : (decide (-9223372036854775808 ≤ 1000000 + k) && decide (1000000 + k ≤ 9223372036854775807)) = true := by simp; omega
    rw [this, cond_true]
    unfold Lib.itoa
    rw [if_neg (by omega), show (1000000 + k).toNat = 1000000 + k.toNat from by omega, p1]
  rw [hi, some_bind']
  have hsub : sub (49 :: pad6 k.toNat) 1 (((49 :: pad6 k.toNat).length : Nat) : Int) = some (pad6 k.toNat) := by
    have := sub_nat (49 :: pad6 k.toNat) 1 (49 :: pad6 k.toNat).length (by simp) (by simp)
    rw [List.take_length] at this
    exact this
  rw [hsub, some_bind']
  unfold O.trimR
  have hb : (Nat.blt (48 : UInt8).toNat 128 && Nat.ble (pad6 k.toNat).length big47) = true := by rw [p2]; rfl
  simp only [hb, cond_true, some_bind', trimR_trz]
  rw [bif_pos]
  have := trz_le (pad6 k.toNat)
  rw [strMax_eq]
  omega
theorem padl_loop (n : Nat) (X : Type) (k0 : List UInt8 → Option X) : ∀ (j m : Nat) (v : List UInt8), v.length + j = 6 → j < m → F.ref05_RateText.L4 n k0 m v = k0 (List.replicate j 48 ++ v) := by
  intro j
  induction j with
  | zero =>
    intro m v h hm
    cases m with
    | zero => omega
    | succ m =>
      show F.ref05_RateText.L4.step n _ k0 v = _
      unfold F.ref05_RateText.L4.step
      rw [bif_neg (by omega)]; rfl
  | succ j ih =>
    intro m v h hm
    cases m with
    | zero => omega
    | succ m =>
      show F.ref05_RateText.L4.step n (F.ref05_RateText.L4 n k0 m) k0 v = _
      unfold F.ref05_RateText.L4.step
      rw [bif_pos (by omega), bif_pos (by rw [strMax_eq]; omega), ih m _ (by simp; omega) (by omega), List.replicate_succ', List.append_assoc]
theorem strip_loop (n : Nat) (X : Type) (k2 : List UInt8 → Option X) (a : List UInt8) (ha : a ≠ []) (hl : ∀ x, a.getLast? = some x → x ≠ 48) (hal : a.length < 1000) : ∀ (j m : Nat), j < m → j < 1000 → F.ref05_RateText.L6 n k2 m (a ++ List.replicate j 48) = k2 a := by
  intro j
  induction j with
  | zero =>
    intro m hm hj
    cases m with
    | zero => omega
    | succ m =>
      show F.ref05_RateText.L6.step n _ k2 _ = _
      unfold F.ref05_RateText.L6.step
      rw [List.replicate_zero, List.append_nil]
      have hp : 0 < a.length := List.length_pos_iff.2 ha
      rw [wrap_in (by omega), idx_pred hp]
      have hg : a[a.length - 1]? = a.getLast? := by rw [List.getLast?_eq_getElem?]
      rw [hg]
      cases e : a.getLast? with
      | none => simp at e; exact absurd e ha
      | some x =>
        have hx := hl x e
        have e2 : ((x.toNat : Int) == 48) = false := by
          have : ¬ (x.toNat : Int) = 48 := fun h => hx (u8_ext (by simp; omega))
          simpa using this
        rw [some_bind', e2, cond_false]
  | succ j ih =>
    intro m hm hj
    cases m with
    | zero => omega
    | succ m =>
      show F.ref05_RateText.L6.step n (F.ref05_RateText.L6 n k2 m) k2 _ = _
      unfold F.ref05_RateText.L6.step
      rw [List.replicate_succ', ← List.append_assoc]
      have hlen : (a ++ List.replicate j (48 : UInt8) ++ [48]).length = a.length + j + 1 := by simp; omega
      rw [wrap_in (by omega), idx_pred (by omega)]
      have hg : (a ++ List.replicate j (48 : UInt8) ++ [48])[(a ++ List.replicate j (48 : UInt8) ++ [48]).length - 1]? = some 48 := by
        rw [← List.getLast?_eq_getElem?]; simp
      rw [hg, some_bind']
      have e2 : ((((48 : UInt8).toNat : Nat) : Int) == 48) = true := rfl
      rw [e2, cond_true]
      have hs : sub (a ++ List.replicate j (48 : UInt8) ++ [48]) 0 (((a ++ List.replicate j (48 : UInt8) ++ [48]).length : Int) - 1) = some (a ++ List.replicate j 48) := by
        have := sub_nat (a ++ List.replicate j (48 : UInt8) ++ [48]) 0 (a.length + j) (by omega) (by rw [hlen]; omega)
        rw [hlen, show (((a.length + j + 1 : Nat) : Int) - 1) = ((a.length + j : Nat) : Int) from by omega]
        refine this.trans ?_
        rw [List.drop_zero, List.take_append_of_le_length (by simp), List.take_of_length_le (by simp)]
      rw [hs, some_bind']
      exact ih m (by omega) (by omega)
theorem rateText_ref (n : Nat) (hn : 100 ≤ n) (k : Int) (h : 1 ≤ k ∧ k ≤ 1000000) : F.ref05_RateText n k = some (rateText k).1 := by
  unfold F.ref05_RateText rateText
  rw [if_neg (by omega)]
  by_cases h3 : k = 1000000
  · subst h3; rfl
  have e3 : (k == 1000000) = false := by simpa using h3
  rw [e3, cond_false, if_neg h3]
  obtain ⟨u, rfl⟩ : ∃ u : Nat, k = u := ⟨k.toNat, by omega⟩
  rw [IntWalk.u64_in _ (by omega), digits_ref n (by omega) u (by omega), some_bind']
  have hl : (Lib.decDigits u).length ≤ 6 := dd_length_le (by omega) (by omega)
  obtain ⟨p1, p2, p3, p4⟩ := pad6_all (k := u) (by omega)
  have hpad : List.replicate (6 - (Lib.decDigits u).length) 48 ++ Lib.decDigits u = pad6 u :=
    val_inj (digs_append.2 ⟨digs_rep _, dd_digs u⟩) p3 (by simp; omega) (by rw [val_zeros_left, dd_val, p4])
  rw [padl_loop n _ _ (6 - (Lib.decDigits u).length) n _ (by omega) (by omega), hpad]
  have ht := trz_le (pad6 u)
  have hne : trz (pad6 u) ≠ [] := fun hh => by have := (trz_nil p3).1 hh; omega
  conv => lhs; rw [trz_pad (pad6 u)]
  rw [strip_loop n _ _ (trz (pad6 u)) hne (fun x => trz_last) (by omega) _ n (by omega) (by omega), bif_pos (by rw [strMax_eq]; omega)]
  simp
end Go.AM
set_option linter.unusedVariables false
set_option linter.unusedSimpArgs false
namespace Go.AM
theorem rateText_form {k : Int} (hk : 1 ≤ k ∧ k < 1000000) : rateText k = (48 :: 46 :: trz (pad6 k.toNat), 0, ()) := by
  unfold rateText
  rw [if_neg (by omega), if_neg (by omega)]; rfl
end Go.AM
set_option linter.unusedVariables false
set_option linter.unusedSimpArgs false
namespace Go.AM
theorem refWord_eq (n : Nat) (k : Int) : F.ref10_Word n k = some (wordL k) := by
  unfold F.ref10_Word wordL
  by_cases h1 : k = 1
  · subst h1; rfl
  by_cases h2 : k = 2
  · subst h2; rfl
  by_cases h3 : k = 3
  · subst h3; rfl
  by_cases h4 : k = 4
  · subst h4; rfl
  rw [beq_eq_false_iff_ne.2 h1, beq_eq_false_iff_ne.2 h2, beq_eq_false_iff_ne.2 h3, beq_eq_false_iff_ne.2 h4, if_neg h1, if_neg h2, if_neg h3, if_neg h4]
  rfl
end Go.AM
set_option linter.unusedVariables false
set_option linter.unusedSimpArgs false
namespace Go.AM
abbrev KRS (X : Type) := List UInt8 → List UInt8 → Int → List (Bool × Int × Int) → Int → List (List UInt8 × List UInt8) → Int → Int → Int → Option X
section
variable {X : Type} (n : Nat) (kr : KRS X)
end
end Go.AM
set_option linter.unusedVariables false
set_option linter.unusedSimpArgs false
namespace Go.AM
def rateL (r : Int) : List UInt8 := if r = 1000000 then [] else [124, 64] ++ (rateText r).1
def lineS (m : MetD) : List UInt8 := m.1 ++ [58] ++ valL m.2.2.1 ++ [124] ++ wordL m.2.1 ++ rateL m.2.2.2.1
def sdLineR (m : MetD) : List UInt8 × Int × Unit := if expM m 1 = 0 then (lineS m, 0, ()) else ([], expM m 1, ())
theorem said_facts {m : MetD} (h : expM m 1 = 0) : ∃ nm k d r, m = (nm, k, [d], r, [], 0, ()) ∧ nameOK nm = true ∧ 1 ≤ k ∧ k ≤ 4 ∧ decC d = 0 ∧ 1 ≤ r ∧ r ≤ 1000000 ∧ (k = 2 → r = 1000000) ∧ (k = 2 → d.1 = false) := by
  obtain ⟨nm, k, vs, r, ts, t, _⟩ := m
  unfold expM at h
  rw [if_neg (by omega)] at h
  by_cases h0 : chkM (nm, k, vs, r, ts, t, ()) = 0
  · rw [if_pos h0] at h
    have hs : saysS (nm, k, vs, r, ts, t, ()) = true := by
      cases e : saysM (nm, k, vs, r, ts, t, ()) 1
      · rw [e] at h; cases h
      · exact e
    obtain ⟨c1, c2, c3, c4, c5, c6⟩ := chk_zero h0
    simp only at c1 c2 c3 c4 c5 c6
    unfold saysS at hs
    simp only [Bool.and_eq_true, Bool.not_eq_true', beq_iff_eq, beq_eq_false_iff_ne, Bool.or_eq_true] at hs
    obtain ⟨hb, ht, hk5, hk2⟩ := hs
    unfold bareM at hb
    simp only [Bool.and_eq_true, decide_eq_true_eq] at hb
    obtain ⟨hv, hg⟩ := hb
    have hg' : ts = [] := List.length_eq_zero_iff.1 hg
    subst hg' ht
    match vs, hv with
    | [d], _ =>
      unfold kindB at c2
      unfold valsB at c3
      unfold rateB at c4
      simp only [Bool.and_eq_true, decide_eq_true_eq, List.all_cons, List.all_nil, Bool.and_true, beq_iff_eq, Bool.or_eq_true, Bool.not_eq_true', beq_eq_false_iff_ne] at c2 c3 c4
      refine ⟨nm, k, d, r, rfl, c1, c2.1, by omega, c3.2.2, c4.1, c4.2.1, fun hk => ?_, fun hk => ?_⟩
      · rcases c4.2.2 with h | h
        · exact absurd hk h
        · exact h
      · rcases hk2 with h | h
        · exact absurd hk h
        · exact h
  · rw [if_neg h0] at h; exact absurd h h0
theorem wordE_in {k : Int} (h1 : 1 ≤ k) (h2 : k ≤ 4) : wordE k = 0 := by unfold wordE; rw [if_pos (by omega)]
theorem wordL_le (k : Int) : (wordL k).length ≤ 2 := by
  unfold wordL
  repeat (first | split | decide)
theorem rateText_ok {r : Int} (h1 : 1 ≤ r) (h2 : r ≤ 1000000) : (rateText r).2.1 = 0 ∧ (rateText r).1.length ≤ 8 := by
  by_cases h : r = 1000000
  · subst h; exact ⟨rfl, by decide⟩
  · rw [rateText_form ⟨h1, by omega⟩]
    obtain ⟨p1, p2, p3, p4⟩ := pad6_all (k := r.toNat) (by omega)
    have := trz_le (pad6 r.toNat)
    refine ⟨rfl, ?_⟩
    simp only [List.length_cons]
    omega
theorem sdLine_eq (n : Nat) (hn : 200000 ≤ n) (m : MetD) (hm : MetOK m) : F.statsd_Line n m = some (sdLineR m) := by
  unfold F.statsd_Line sdLineR
  have he : F.expr_Metric n (m.1, m.2.1, m.2.2.1, m.2.2.2.1, m.2.2.2.2.1, m.2.2.2.2.2.1, ()) (1 : Int) = some (expM m 1) := expm_eq n hn m hm 1
  rw [he, some_bind']
  by_cases h0 : expM m 1 = 0
  · rw [if_pos h0]
    obtain ⟨nm, k, d, r, rfl, hnm, k1, k4, hd, r1, r2, hr2, hneg⟩ := said_facts h0
    have hdo : DecLOK d := hm.2.1.2 d (by simp)
    have hn1 := hm.1
    simp only at hn1
    have ht := textD_le hdo hd
    have hw := wordL_le k
    obtain ⟨t1, t2⟩ := rateText_ok r1 r2
    have hE := wordE_in k1 k4
    have hi : idx [d] (0 : Int) = some d := rfl
    rw [h0]
    simp only [O.word, some_bind', hE, hi, decText_eq n hn hdo hd, rateText_num, t1]
    unfold lineS valL rateL
    simp only [beq_self_eq_true, Bool.not_true, cond_false]
    rw [bif_pos (by rw [strMax_eq]; omega), bif_pos (by rw [strMax_eq]; simp; omega), bif_pos (by rw [strMax_eq]; simp; omega), bif_pos (by rw [strMax_eq]; simp; omega)]
    by_cases hr : r = 1000000
    · subst hr; simp
    · rw [beq_eq_false_iff_ne.2 hr, cond_false, if_neg hr, bif_pos (by rw [strMax_eq]; simp; omega), bif_pos (by rw [strMax_eq]; simp; omega), bif_pos (by rw [strMax_eq]; simp; omega)]
      simp
  · rw [beq_eq_false_iff_ne.2 h0, if_neg h0]; rfl
theorem sdRefLine_eq (n : Nat) (hn : 200000 ≤ n) (m : MetD) (hm : MetOK m) (h0 : expM m 1 = 0) : F.ref10_Line n m = some (lineS m) := by
  unfold F.ref10_Line
  obtain ⟨nm, k, d, r, rfl, hnm, k1, k4, hd, r1, r2, hr2, hneg⟩ := said_facts h0
  have hdo : DecLOK d := hm.2.1.2 d (by simp)
  have hn1 := hm.1
  simp only at hn1
  have ht := textD_le hdo hd
  have hw := wordL_le k
  obtain ⟨t1, t2⟩ := rateText_ok r1 r2
  have hi : idx [d] (0 : Int) = some d := rfl
  simp only [hi, some_bind', decText_ref n hn hdo hd, refWord_eq, rateText_ref n (by omega) r ⟨r1, r2⟩]
  unfold lineS valL rateL
  rw [bif_pos (by rw [strMax_eq]; omega), bif_pos (by rw [strMax_eq]; simp; omega), bif_pos (by rw [strMax_eq]; simp; omega), bif_pos (by rw [strMax_eq]; simp; omega)]
  by_cases hr : r = 1000000
  · subst hr; simp
  · rw [beq_eq_false_iff_ne.2 hr, Bool.not_false, cond_true, if_neg hr, bif_pos (by rw [strMax_eq]; simp; omega), bif_pos (by rw [strMax_eq]; simp; omega)]
    simp
end Go.AM
set_option linter.unusedVariables false
set_option linter.unusedSimpArgs false
namespace Go.AM
end Go.AM
set_option linter.unusedVariables false
set_option linter.unusedSimpArgs false
namespace Go.AM
end Go.AM
set_option linter.unusedVariables false
set_option linter.unusedSimpArgs false
namespace Go.AM
end Go.AM
set_option linter.unusedVariables false
set_option linter.unusedSimpArgs false
namespace Go.AM
section
variable {X : Type} (n : Nat) (kr : KRS X)
end
end Go.AM
set_option linter.unusedVariables false
set_option linter.unusedSimpArgs false
namespace Go.AM
end Go.AM
set_option linter.unusedVariables false
set_option linter.unusedSimpArgs false
namespace Go.AM
end Go.AM
set_option linter.unusedVariables false
set_option linter.unusedSimpArgs false
namespace Go.AM
section
variable {X : Type} (kr : KRS X)
end
end Go.AM
set_option linter.unusedVariables false
set_option linter.unusedSimpArgs false
namespace Go.AM
def numText (k : Int) : List UInt8 × Int × Unit := if k < 0 then ([], 10, ()) else (Lib.decDigits k.toNat, 0, ())
theorem text_num (n : Nat) (k : Int) (h : -9223372036854775808 ≤ k ∧ k ≤ 9223372036854775807) : F.num_Text n k = some (numText k) := by
  unfold F.num_Text numText
  by_cases h0 : k < 0
  · rw [bif_pos h0, if_pos h0]
  · rw [bif_neg h0, if_neg h0]
    unfold O.itoa
    have : (decide (-9223372036854775808 ≤ k) && decide (k ≤ 9223372036854775807)) = true := by simp [h]
    rw [this, cond_true, some_bind']
    unfold Lib.itoa
    rw [if_neg h0]
end Go.AM
set_option linter.unusedVariables false
set_option linter.unusedSimpArgs false
namespace Go.AM
theorem tagL_beq (x y : TagL) : ((x.1 == y.1) && (x.2 == y.2)) = decide (x = y) := by
  obtain ⟨a, b⟩ := x
  obtain ⟨a', b'⟩ := y
  by_cases h : ((a, b) : TagL) = (a', b')
  · rw [decide_eq_true h]
    simp only [Prod.mk.injEq] at h
    simp [h.1, h.2]
  · rw [decide_eq_false h]
    cases h1 : (a == a') && (b == b') with
    | false => rfl
    | true =>
      simp only [Bool.and_eq_true, beq_iff_eq] at h1
      exact absurd (by rw [h1.1, h1.2]) h
end Go.AM
set_option linter.unusedVariables false
set_option linter.unusedSimpArgs false
namespace Go.AM
end Go.AM
set_option linter.unusedVariables false
set_option linter.unusedSimpArgs false
namespace Go.AM
section
variable {X : Type} (n : Nat) (rec : Int → Int → Bool → List UInt8 → Int → List DecL → Int → List TagL → Int → Int → Int → List UInt8 → Int → List DecL → Int → List TagL → Int → Int → Int → List UInt8 → Nat → Nat → Nat → Nat → Option X)
  (k0 kr : List UInt8 → Int → List DecL → Int → List TagL → Int → Int → Int → List UInt8 → Int → List DecL → Int → List TagL → Int → Int → Int → List UInt8 → Nat → Nat → Nat → Nat → Option X)
  (b0 : List UInt8) (b1 : Int) (b2 : List DecL) (b3 : Int) (b4 : List TagL) (b5 b6 b7 : Int) (nm : List UInt8) (kd : Int) (vs : List DecL) (rt : Int) (ts : List TagL) (tm c a : Int) (s : List UInt8) (i0 i1 i2 i3 : Nat)
end
end Go.AM
set_option linter.unusedVariables false
set_option linter.unusedSimpArgs false
namespace Go.AM
def lineG (m : MetD) : List UInt8 := m.1 ++ [32] ++ valL m.2.2.1 ++ [32] ++ Lib.decDigits m.2.2.2.2.2.1.toNat
def lineGR (m : MetD) : List UInt8 × Int × Unit := if expM m 3 = 0 then (lineG m, 0, ()) else ([], expM m 3, ())
theorem saidG_facts {m : MetD} (h : expM m 3 = 0) : ∃ nm d t, m = (nm, 2, [d], 1000000, [], t, ()) ∧ nameOK nm = true ∧ decC d = 0 ∧ 1 ≤ t ∧ t ≤ 1099511627776 := by
  obtain ⟨nm, k, vs, r, ts, t, _⟩ := m
  unfold expM at h
  rw [if_neg (by omega)] at h
  by_cases h0 : chkM (nm, k, vs, r, ts, t, ()) = 0
  · rw [if_pos h0] at h
    have hs : saysG (nm, k, vs, r, ts, t, ()) = true := by
      cases e : saysM (nm, k, vs, r, ts, t, ()) 3
      · rw [e] at h; cases h
      · exact e
    obtain ⟨c1, c2, c3, c4, c5, c6⟩ := chk_zero h0
    simp only at c1 c2 c3 c4 c5 c6
    unfold saysG at hs
    simp only [Bool.and_eq_true, Bool.not_eq_true', beq_iff_eq, beq_eq_false_iff_ne] at hs
    obtain ⟨hb, ht, hk⟩ := hs
    subst hk
    unfold bareM at hb
    simp only [Bool.and_eq_true, decide_eq_true_eq] at hb
    obtain ⟨hv, hg⟩ := hb
    have hg' : ts = [] := List.length_eq_zero_iff.1 hg
    subst hg'
    match vs, hv with
    | [d], _ =>
      unfold valsB at c3
      unfold rateB at c4
      unfold timeB at c6
      simp only [Bool.and_eq_true, decide_eq_true_eq, List.all_cons, List.all_nil, Bool.and_true, beq_iff_eq, Bool.or_eq_true, Bool.not_eq_true', beq_eq_false_iff_ne] at c3 c4 c6
      have hr : r = 1000000 := by
        rcases c4.2.2 with h | h
        · exact absurd rfl h
        · exact h
      subst hr
      exact ⟨nm, d, t, rfl, c1, c3.2.2, by omega, c6.2⟩
  · rw [if_neg h0] at h; exact absurd h h0
theorem dd_time {t : Int} (h1 : 1 ≤ t) (h2 : t ≤ 1099511627776) : (Lib.decDigits t.toNat).length ≤ 13 := dd_length_le (by omega) (by omega)
theorem lineG_eq (n : Nat) (hn : 200000 ≤ n) (m : MetD) (hm : MetOK m) : F.graphite_Line n m = some (lineGR m) := by
  unfold F.graphite_Line lineGR
  have he : F.expr_Metric n (m.1, m.2.1, m.2.2.1, m.2.2.2.1, m.2.2.2.2.1, m.2.2.2.2.2.1, ()) (3 : Int) = some (expM m 3) := expm_eq n hn m hm 3
  rw [he, some_bind']
  by_cases h0 : expM m 3 = 0
  · rw [if_pos h0]
    obtain ⟨nm, d, t, rfl, hnm, hd, t1, t2⟩ := saidG_facts h0
    have hdo : DecLOK d := hm.2.1.2 d (by simp)
    have hn1 := hm.1
    simp only at hn1
    have ht := textD_le hdo hd
    have hi : idx [d] (0 : Int) = some d := rfl
    have hnt : numText t = (Lib.decDigits t.toNat, 0, ()) := by unfold numText; rw [if_neg (by omega)]
    have hl := dd_time t1 t2
    rw [h0]
    simp only [some_bind', hi, decText_eq n hn hdo hd, text_num n t (by omega), hnt]
    unfold lineG valL
    simp only [beq_self_eq_true, Bool.not_true, cond_false]
    rw [bif_pos (by rw [strMax_eq]; omega), bif_pos (by rw [strMax_eq]; simp; omega), bif_pos (by rw [strMax_eq]; simp; omega), bif_pos (by rw [strMax_eq]; simp; omega)]
  · rw [beq_eq_false_iff_ne.2 h0, if_neg h0]; rfl
theorem refLineG_eq (n : Nat) (hn : 200000 ≤ n) (m : MetD) (hm : MetOK m) (h0 : expM m 3 = 0) : F.ref12_Line n m = some (lineG m) := by
  unfold F.ref12_Line F.ref05_Text
  obtain ⟨nm, d, t, rfl, hnm, hd, t1, t2⟩ := saidG_facts h0
  have hdo : DecLOK d := hm.2.1.2 d (by simp)
  have hn1 := hm.1
  simp only at hn1
  have ht := textD_le hdo hd
  have hi : idx [d] (0 : Int) = some d := rfl
  have hl := dd_time t1 t2
  have hdg : F.ref05_Digits n (IntKind.wrap .u64 t) = some (Lib.decDigits t.toNat) := by
    rw [IntWalk.u64_in _ (by omega)]
    have := digits_ref n (by omega) t.toNat (by omega)
    rw [show ((t.toNat : Nat) : Int) = t from by omega] at this
    exact this
  simp only [hi, some_bind', decText_ref n hn hdo hd, hdg]
  unfold lineG valL
  rw [bif_pos (by rw [strMax_eq]; omega), bif_pos (by rw [strMax_eq]; simp; omega), bif_pos (by rw [strMax_eq]; simp; omega), bif_pos (by rw [strMax_eq]; simp; omega)]
theorem lineG_le {m : MetD} (hm : MetOK m) (h : expM m 3 = 0) (hl : m.1.length ≤ 300) : (lineG m).length ≤ 400 := by
  obtain ⟨nm, d, t, rfl, hnm, hd, t1, t2⟩ := saidG_facts h
  have hdo : DecLOK d := hm.2.1.2 d (by simp)
  have h1 := textD_le hdo hd
  have h2 := dd_time t1 t2
  have h5 : valL [d] = textD d.1 d.2.1.toNat d.2.2 := rfl
  simp only at hl
  unfold lineG
  simp only [h5]
  simp
  omega
end Go.AM
set_option linter.unusedVariables false
set_option linter.unusedSimpArgs false
namespace Go.AM
theorem ahead_end (n : Nat) (X : Type) (k0 : List UInt8 → List UInt8 → Option X) (kr : Bool → Option X) (a b : List UInt8) (k m : Nat) (h : a.length ≤ k ∨ b.length ≤ k) (hm : 0 < m) : F.ref06_Ahead.L2 n k0 kr m a b (k : Int) = k0 a b := by
  obtain ⟨m, rfl⟩ : ∃ p, m = p + 1 := ⟨m - 1, by omega⟩
  show F.ref06_Ahead.L2.step n (F.ref06_Ahead.L2 n k0 kr m) k0 kr _ _ _ = _
  unfold F.ref06_Ahead.L2.step
  by_cases hk : (k : Int) < (a.length : Int)
  · rw [bif_pos hk, bif_neg (by omega)]
  · rw [bif_neg hk]
theorem ahead_eq (n : Nat) (a b : List UInt8) (ha : a.length ≤ 1000000) (hb : b.length ≤ 1000000) (hn : a.length < n) : F.ref06_Ahead n a b = some (Op.bytesLess a b) := by
  have L : ∀ (r q : List UInt8) (k m : Nat), a.drop k = r → b.drop k = q → k ≤ a.length → k ≤ b.length → r.length < m →
      F.ref06_Ahead.L2 n (fun e5_0 e5_1 => some (decide ((e5_0.length : Int) < (e5_1.length : Int)))) (fun e6_4 => some (e6_4)) m a b (k : Int) = some (Op.bytesLess r q) := by
    intro r
    induction r with
    | nil =>
      intro q k m h1 h2 ka kb hm
      have l1 := drop_nil' h1
      rw [ahead_end n Bool _ _ a b k m (Or.inl l1) (by omega)]
      cases q with
      | nil =>
        have l2 := drop_nil' h2
        show some (decide _) = some false
        by_cases hk : a.length < b.length
        · omega
        · rw [decide_eq_false (by omega)]
      | cons y q =>
        obtain ⟨l2, _, _⟩ := drop_cons h2
        show some (decide _) = some true
        rw [decide_eq_true (by omega)]
    | cons x r ih =>
      intro q k m h1 h2 ka kb hm
      obtain ⟨l1, g1, t1⟩ := drop_cons h1
      cases q with
      | nil =>
        have l2 := drop_nil' h2
        rw [ahead_end n Bool _ _ a b k m (Or.inr l2) (by omega)]
        show some (decide _) = some false
        rw [decide_eq_false (by omega)]
      | cons y q =>
        obtain ⟨l2, g2, t2⟩ := drop_cons h2
        obtain ⟨m, rfl⟩ : ∃ p, m = p + 1 := ⟨m - 1, by simp at hm; omega⟩
        rw [F.ref06_Ahead.L2]
        unfold F.ref06_Ahead.L2.step
        dsimp only
        rw [bif_pos (by omega), bif_pos (by omega), idx_nat, idx_nat, g1, g2]
        simp only [some_bind', blc]
        by_cases e : x = y
        · subst e
          rw [beq_self_eq_true, Bool.not_true, cond_false, wrap_succ (by omega), ih q (k + 1) m t1 t2 (by omega) (by omega) (by simp at hm; omega)]
          have hx : ¬ x < x := by rw [u8_lt]; omega
          rw [decide_eq_false hx]; simp
        · have e' : ¬ ((x.toNat : Int)) = (y.toNat : Int) := fun h => e (u8_eq.2 (by omega))
          rw [beq_eq_false_iff_ne.2 e', Bool.not_false, cond_true, beq_eq_false_iff_ne.2 e]
          simp only [Bool.false_and, Bool.or_false, Option.some.injEq]
          apply decide_eq_decide.2
          rw [u8_lt]; omega
  unfold F.ref06_Ahead
  exact L a b 0 n rfl rfl (by omega) (by omega) hn
theorem less_eq (n : Nat) (a b : TagL) (ha : TagLOK a) (hb : TagLOK b) (hn : 200000 ≤ n) : F.ref06_Less n (a.1, a.2, ()) (b.1, b.2, ()) = some (ltT a b) := by
  unfold F.ref06_Less ltT
  simp only
  rw [ahead_eq n a.1 b.1 (by have := ha.1; omega) (by have := hb.1; omega) (by have := ha.1; omega), ahead_eq n a.2 b.2 (by have := ha.2; omega) (by have := hb.2; omega) (by have := ha.2; omega)]
  simp only [some_bind']
  by_cases e : a.1 = b.1
  · rw [if_pos e, e, bl_irrefl, beq_self_eq_true]; rfl
  · rw [if_neg e, beq_eq_false_iff_ne.2 e]
    cases Op.bytesLess a.1 b.1 <;> rfl
def insD (t : TagL) : List TagL → List TagL
  | [] => [t]
  | x :: r => if ltT x t then x :: insD t r else if x = t then x :: r else t :: x :: r
def normT (l : List TagL) : List TagL := l.foldl (fun o t => insD t o) []
abbrev StrictT (l : List TagL) : Prop := l.Pairwise fun a b => ltT a b = true
theorem insD_mem (t : TagL) : ∀ (l : List TagL) (x : TagL), x ∈ insD t l ↔ x = t ∨ x ∈ l
  | [], x => by simp [insD]
  | y :: r, x => by
    unfold insD
    split
    · simp only [List.mem_cons, insD_mem t r x]
      constructor
      · rintro (h | h | h) <;> simp [h]
      · rintro (h | h | h) <;> simp [h]
    · split
      · rename_i e
        subst e
        simp only [List.mem_cons]
        constructor
        · rintro (h | h) <;> simp [h]
        · rintro (h | h | h) <;> simp [h]
      · simp only [List.mem_cons]
theorem insD_strict (t : TagL) : ∀ (l : List TagL), StrictT l → StrictT (insD t l)
  | [], _ => by simp [insD, StrictT]
  | y :: r, h => by
    obtain ⟨h1, h2⟩ := List.pairwise_cons.1 h
    unfold insD
    split
    · rename_i hy
      refine List.pairwise_cons.2 ⟨fun x hx => ?_, insD_strict t r h2⟩
      rcases (insD_mem t r x).1 hx with rfl | hx
      · exact hy
      · exact h1 x hx
    · rename_i hy
      split
      · exact h
      · rename_i hne
        have hty : ltT t y = true := by
          cases hc : ltT t y
          · exact absurd (ltT_total (by simpa using hy) hc) hne
          · rfl
        refine List.pairwise_cons.2 ⟨fun x hx => ?_, h⟩
        rcases List.mem_cons.1 hx with rfl | hx
        · exact hty
        · exact ltT_trans hty (h1 x hx)
theorem strict_unique : ∀ (a b : List TagL), StrictT a → StrictT b → (∀ x, x ∈ a ↔ x ∈ b) → a = b
  | [], [], _, _, _ => rfl
  | [], y :: b, _, _, h => by have := (h y).2 (by simp); cases this
  | x :: a, [], _, _, h => by have := (h x).1 (by simp); cases this
  | x :: a, y :: b, ha, hb, h => by
    obtain ⟨h1, h2⟩ := List.pairwise_cons.1 ha
    obtain ⟨h3, h4⟩ := List.pairwise_cons.1 hb
    have e : x = y := by
      rcases List.mem_cons.1 ((h x).1 (by simp)) with e | e
      · exact e
      · rcases List.mem_cons.1 ((h y).2 (by simp)) with e' | e'
        · exact e'.symm
        · have := ltT_asymm (h1 y e'); rw [h3 x e] at this; cases this
    subst e
    rw [strict_unique a b h2 h4 (fun z => ?_)]
    have hx := h z
    simp only [List.mem_cons] at hx
    constructor
    · intro hz
      rcases hx.1 (Or.inr hz) with rfl | h'
      · have := h1 _ hz; rw [ltT_irrefl] at this; cases this
      · exact h'
    · intro hz
      rcases hx.2 (Or.inr hz) with rfl | h'
      · have := h3 _ hz; rw [ltT_irrefl] at this; cases this
      · exact h'
theorem normT_fold : ∀ (l o : List TagL), StrictT o → StrictT (l.foldl (fun o t => insD t o) o) ∧ ∀ x, x ∈ l.foldl (fun o t => insD t o) o ↔ x ∈ o ∨ x ∈ l
  | [], o, h => ⟨h, fun x => by simp⟩
  | t :: l, o, h => by
    obtain ⟨h1, h2⟩ := normT_fold l (insD t o) (insD_strict t o h)
    refine ⟨h1, fun x => ?_⟩
    rw [List.foldl_cons, h2 x, insD_mem, List.mem_cons]
    constructor
    · rintro ((h | h) | h) <;> simp [h]
    · rintro (h | h | h) <;> simp [h]
theorem normT_strict (l : List TagL) : StrictT (normT l) := (normT_fold l [] List.Pairwise.nil).1
theorem normT_mem (l : List TagL) (x : TagL) : x ∈ normT l ↔ x ∈ l := by
  unfold normT; rw [(normT_fold l [] List.Pairwise.nil).2 x]; simp
theorem normT_id {l : List TagL} (h : StrictT l) : normT l = l :=
  strict_unique _ _ (normT_strict l) h (fun x => normT_mem l x)
theorem insD_len (t : TagL) : ∀ l, (insD t l).length ≤ l.length + 1
  | [] => by simp [insD]
  | y :: r => by
    unfold insD
    have := insD_len t r
    split
    · simp; omega
    · split <;> simp
theorem normT_len (l : List TagL) : (normT l).length ≤ l.length := by
  have : ∀ (l o : List TagL), (l.foldl (fun o t => insD t o) o).length ≤ o.length + l.length := by
    intro l
    induction l with
    | nil => intro o; simp
    | cons t l ih => intro o; have h1 := ih (insD t o); have h2 := insD_len t o; simp only [List.foldl_cons, List.length_cons]; omega
  have h := this l []
  simp only [List.length_nil, Nat.zero_add] at h
  exact h
def dedF (D : List TagL) (t : TagL) : List TagL := if D.getLast? = some t then D else D ++ [t]
theorem dedF_fold : ∀ (s D : List TagL), SortedT s → StrictT D → (∀ a ∈ D, ∀ b ∈ s, ltT b a = false) → StrictT (s.foldl dedF D) ∧ ∀ x, x ∈ s.foldl dedF D ↔ x ∈ D ∨ x ∈ s
  | [], D, _, h, _ => ⟨h, fun x => by simp⟩
  | t :: s, D, hs, hD, hb => by
    obtain ⟨h1, h2⟩ := List.pairwise_cons.1 hs
    have key : StrictT (dedF D t) ∧ (∀ x, x ∈ dedF D t ↔ x ∈ D ∨ x = t) := by
      unfold dedF
      split
      · rename_i e
        have ht : t ∈ D := List.mem_of_getLast? e
        exact ⟨hD, fun x => ⟨Or.inl, fun h => h.elim id (fun e => e ▸ ht)⟩⟩
      · rename_i e
        refine ⟨?_, fun x => by simp⟩
        refine List.pairwise_append.2 ⟨hD, List.pairwise_singleton _ _, fun a ha b hb' => ?_⟩
        rw [List.mem_singleton.1 hb']
        have h0 := hb a ha t (by simp)
        cases hc : ltT a t
        · exfalso
          have : a = t := ltT_total hc h0
          subst this
          apply e
          have : ∀ (D : List TagL), StrictT D → (∀ x ∈ D, ltT a x = false) → a ∈ D → D.getLast? = some a := by
            intro D
            induction D with
            | nil => intro _ _ h; cases h
            | cons y D ih =>
              intro hp hm hin
              obtain ⟨p1, p2⟩ := List.pairwise_cons.1 hp
              cases D with
              | nil => rcases List.mem_cons.1 hin with rfl | h
                       · rfl
                       · cases h
              | cons z D =>
                rw [List.getLast?_cons_cons]
                refine ih p2 (fun x hx => hm x (List.mem_cons_of_mem _ hx)) ?_
                rcases List.mem_cons.1 hin with rfl | h
                · have := p1 z (by simp); rw [hm z (by simp)] at this; cases this
                · exact h
          exact this D hD (fun x hx => hb x hx a (by simp)) ha
        · rfl
    obtain ⟨k1, k2⟩ := key
    obtain ⟨f1, f2⟩ := dedF_fold s (dedF D t) h2 k1 (fun a ha b hb' => by
      rcases (k2 a).1 ha with ha | rfl
      · exact hb a ha b (List.mem_cons_of_mem _ hb')
      · exact h1 b hb')
    refine ⟨f1, fun x => ?_⟩
    rw [List.foldl_cons, f2 x, k2 x, List.mem_cons]
    constructor
    · rintro ((h | h) | h) <;> simp [h]
    · rintro (h | h | h) <;> simp [h]
theorem ded_norm (l : List TagL) : (sortTags l).foldl dedF [] = normT l := by
  obtain ⟨h1, h2⟩ := dedF_fold (sortTags l) [] (sortTags_sorted l) List.Pairwise.nil (fun a ha => by cases ha)
  refine strict_unique _ _ h1 (normT_strict l) (fun x => ?_)
  rw [h2 x, normT_mem, (sortTags_perm l).mem_iff]; simp
theorem upd_set {α : Type} : ∀ (l : List α) (k : Nat) (x : α), upd l k x = l.set k x
  | [], _, _ => rfl
  | _ :: l, 0, _ => rfl
  | _ :: l, k + 1, x => by simp [upd, upd_set l k x]
end Go.AM
