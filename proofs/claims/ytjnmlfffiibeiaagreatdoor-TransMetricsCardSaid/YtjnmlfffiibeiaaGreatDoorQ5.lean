/- Part 5 of a proof by the abstract machine. -/
import Derived.Test.YtjnmlfffiibeiaaGreatDoorQ4
import Derived.KernelRfl
import Derived.Test.YtjnmlfffiibeiaaGreatDoorRows
import Derived.Test.YtjnmlfffiibeiaaGreatDoorProg
import Derived.Shelf.Spec.BitsCarry
import Derived.Lib.ItoaNum
import Derived.Lib.ItoaLen
import Derived.Lib.AtoiAll
import Derived.Lib.TrimByte
set_option linter.unusedVariables false
set_option maxRecDepth 100000
namespace Go.AM
open Go.Proofs Go.RowKit
open Go.Proofs.YtjnmlfffiibeiaaGreatDoor
def SI : World → Prop := LaidI Tryz.prog Rows.transMetricsRow.laid
def SW : World → Prop := WOf SI
theorem swTab {w : World} (h : SW w) : Lib.TabIs Tryz.prog w (Rows.transMetricsRow.laid.getD 2 ("", .nil)).1 .u64 Lib.pow10Tab := by
  obtain ⟨w0, h1, h2, h3⟩ := h
  exact tab_on (laid_tab h1 (by kernel_rfl) 2 (by kernel_rfl) (g := 1) (by kernel_rfl) (by kernel_rfl) Tryz.underlying360 Tryz.underlying85 (by kernel_rfl) (by kernel_rfl)) h2 h3
theorem mixed : Tryz.prog.follows .mixedOrders = true := by kernel_rfl
abbrev V0 : SV := .int .i64
abbrev V1 : SV := .sl Y2 .unk
abbrev V2 : SV := .sl Y3 .unk
abbrev V3 : SV := .agg [.str, V0, V1, V0, V2, V0]
abbrev V4 : SV := .sl Y6 .unk
abbrev V5 : SV := .int .u8
abbrev V6 : SV := .agg [V0, V0]
abbrev V7 : SV := .int .u64
abbrev V8 : SV := .agg [.bool, V7, V0]
abbrev V9 : SV := .agg [.str, .str]
abbrev V10 : SV := .agg [(.fn 103 [V3] []), V0, (.fn 104 [V3] []), V0, (.fn 105 [V3] []), V0, (.fn 106 [V3] []), V0, (.fn 107 [V3] []), V0, (.fn 108 [V3] []), V0]
abbrev V11 : SV := .sl .u8 .unk
abbrev V12 : SV := .agg [V5, V5]
abbrev V13 : SV := .agg [.str, .str, .str, .str, .str, .str]
abbrev V14 : SV := .sl .str .unk
def tab : Tree TI := .node 100 (.node 57 (.node 32 (.node 22 (.node 5 (.node 4 (.one 3 ⟨.int .i64, 1, 8, false, [(.int .i64 (0 : Int))], some Y1, false⟩) (.one 4 ⟨.bool, 1, 1, false, [(.bool false)], some .bool, false⟩)) (.node 9 (.one 5 ⟨.int .u8, 1, 1, false, [(.int .u8 (0 : Int))], some .u8, false⟩) (.one 9 ⟨.str, 1, 16, false, [(.str [])], some .str, false⟩))) (.node 25 (.node 24 (.one 22 ⟨.slice 56, 1, 24, false, [.sl Y6 [] .full], some Y7, false⟩) (.one 24 ⟨.func, 1, 8, false, [.nilfn], none, false⟩)) (.node 26 (.one 25 ⟨.int .i64, 1, 8, false, [(.int .i64 (0 : Int))], some Y1, false⟩) (.node 30 (.one 26 ⟨.other, 1, 0, false, [.any], none, false⟩) (.one 30 ⟨.slice 5, 1, 24, false, [.sl .u8 [] .full], some (.sl .u8), false⟩))))) (.node 41 (.node 35 (.node 33 (.one 32 ⟨.struct [(0, 25), (1, 3)], 2, 16, true, [(.int .i64 (0 : Int)), (.int .i64 (0 : Int))], some Y8, true⟩) (.one 33 ⟨.other, 1, 0, false, [.any], none, false⟩)) (.node 39 (.one 35 ⟨.other, 1, 0, false, [.any], none, false⟩) (.one 39 ⟨.other, 1, 0, false, [.any], none, false⟩))) (.node 53 (.node 47 (.one 41 ⟨.other, 1, 0, false, [.any], none, false⟩) (.one 47 ⟨.other, 1, 0, false, [.any], none, false⟩)) (.node 54 (.one 53 ⟨.slice 87, 1, 24, false, [.sl Y2 [] .full], some Y4, false⟩) (.node 56 (.one 54 ⟨.slice 77, 1, 24, false, [.sl Y3 [] .full], some Y5, false⟩) (.one 56 ⟨.struct [(0, 9), (1, 3), (2, 53), (3, 3), (4, 54), (5, 3)], 6, 88, true, [(.str []), (.int .i64 (0 : Int)), .sl Y2 [] .full, (.int .i64 (0 : Int)), .sl Y3 [] .full, (.int .i64 (0 : Int))], some Y6, false⟩)))))) (.node 75 (.node 63 (.node 60 (.node 58 (.one 57 ⟨.func, 1, 8, false, [.nilfn], none, false⟩) (.one 58 ⟨.func, 1, 8, false, [.nilfn], none, false⟩)) (.node 61 (.one 60 ⟨.struct [(0, 57), (1, 58)], 2, 16, true, [.nilfn, .nilfn], none, false⟩) (.one 61 ⟨.other, 1, 0, false, [.any], none, false⟩))) (.node 67 (.node 66 (.one 63 ⟨.other, 1, 0, false, [.any], none, false⟩) (.one 66 ⟨.func, 1, 8, false, [.nilfn], none, false⟩)) (.node 68 (.one 67 ⟨.other, 1, 0, false, [.any], none, false⟩) (.node 72 (.one 68 ⟨.map 3 66, 1, 8, false, [.any], none, false⟩) (.one 72 ⟨.struct [(0, 56)], 6, 88, true, [(.str []), (.int .i64 (0 : Int)), .sl Y2 [] .full, (.int .i64 (0 : Int)), .sl Y3 [] .full, (.int .i64 (0 : Int))], some Y9, false⟩))))) (.node 91 (.node 79 (.node 77 (.one 75 ⟨.func, 1, 8, false, [.nilfn], none, false⟩) (.one 77 ⟨.struct [(0, 9), (1, 9)], 2, 32, true, [(.str []), (.str [])], some Y3, true⟩)) (.node 85 (.one 79 ⟨.arr 5 60, 10, 80, true, [.nilfn, .nilfn, .nilfn, .nilfn, .nilfn, .nilfn, .nilfn, .nilfn, .nilfn, .nilfn], none, false⟩) (.node 87 (.one 85 ⟨.int .u64, 1, 8, false, [(.int .u64 (0 : Int))], some Y0, false⟩) (.one 87 ⟨.struct [(0, 4), (1, 85), (2, 3)], 3, 24, true, [(.bool false), (.int .u64 (0 : Int)), (.int .i64 (0 : Int))], some Y2, true⟩)))) (.node 96 (.node 93 (.one 91 ⟨.other, 1, 0, false, [.any], none, false⟩) (.one 93 ⟨.other, 1, 0, false, [.any], none, false⟩)) (.node 97 (.one 96 ⟨.slice 9, 1, 24, false, [.sl .str [] .full], some (.sl .str), false⟩) (.node 99 (.one 97 ⟨.other, 1, 0, false, [.any], none, false⟩) (.one 99 ⟨.slice 4, 1, 24, false, [.sl .bool [] .full], some (.sl .bool), false⟩))))))) (.node 181 (.node 144 (.node 119 (.node 106 (.node 102 (.one 100 ⟨.other, 1, 0, false, [.any], none, false⟩) (.one 102 ⟨.func, 1, 8, false, [.nilfn], none, false⟩)) (.node 109 (.one 106 ⟨.func, 1, 8, false, [.nilfn], none, false⟩) (.one 109 ⟨.other, 1, 0, false, [.any], none, false⟩))) (.node 139 (.node 135 (.one 119 ⟨.other, 1, 0, false, [.any], none, false⟩) (.one 135 ⟨.func, 1, 8, false, [.nilfn], none, false⟩)) (.node 142 (.one 139 ⟨.func, 1, 8, false, [.nilfn], none, false⟩) (.node 143 (.one 142 ⟨.struct [(0, 56)], 6, 88, true, [(.str []), (.int .i64 (0 : Int)), .sl Y2 [] .full, (.int .i64 (0 : Int)), .sl Y3 [] .full, (.int .i64 (0 : Int))], some Y9, false⟩) (.one 143 ⟨.struct [(0, 24), (1, 25)], 2, 16, true, [.nilfn, (.int .i64 (0 : Int))], none, false⟩))))) (.node 154 (.node 146 (.node 145 (.one 144 ⟨.arr 6 143, 12, 96, true, [.nilfn, (.int .i64 (0 : Int)), .nilfn, (.int .i64 (0 : Int)), .nilfn, (.int .i64 (0 : Int)), .nilfn, (.int .i64 (0 : Int)), .nilfn, (.int .i64 (0 : Int)), .nilfn, (.int .i64 (0 : Int))], none, false⟩) (.one 145 ⟨.func, 1, 8, false, [.nilfn], none, false⟩)) (.node 151 (.one 146 ⟨.other, 1, 0, false, [.any], none, false⟩) (.node 152 (.one 151 ⟨.func, 1, 8, false, [.nilfn], none, false⟩) (.one 152 ⟨.func, 1, 8, false, [.nilfn], none, false⟩)))) (.node 158 (.node 155 (.one 154 ⟨.struct [(0, 152), (1, 135)], 2, 16, true, [.nilfn, .nilfn], none, false⟩) (.one 155 ⟨.other, 1, 0, false, [.any], none, false⟩)) (.node 160 (.one 158 ⟨.func, 1, 8, false, [.nilfn], none, false⟩) (.node 178 (.one 160 ⟨.other, 1, 0, false, [.any], none, false⟩) (.one 178 ⟨.other, 1, 0, false, [.any], none, false⟩)))))) (.node 272 (.node 211 (.node 206 (.node 193 (.one 181 ⟨.func, 1, 8, false, [.nilfn], none, false⟩) (.one 193 ⟨.other, 1, 0, false, [.any], none, false⟩)) (.node 207 (.one 206 ⟨.func, 1, 8, false, [.nilfn], none, false⟩) (.one 207 ⟨.other, 1, 0, false, [.any], none, false⟩))) (.node 214 (.node 213 (.one 211 ⟨.func, 1, 8, false, [.nilfn], none, false⟩) (.one 213 ⟨.func, 1, 8, false, [.nilfn], none, false⟩)) (.node 220 (.one 214 ⟨.other, 1, 0, false, [.any], none, false⟩) (.node 270 (.one 220 ⟨.other, 1, 0, false, [.any], none, false⟩) (.one 270 ⟨.other, 1, 0, false, [.any], none, false⟩))))) (.node 282 (.node 275 (.node 273 (.one 272 ⟨.func, 1, 8, false, [.nilfn], none, false⟩) (.one 273 ⟨.other, 1, 0, false, [.any], none, false⟩)) (.node 277 (.one 275 ⟨.ptr, 1, 8, false, [.nilp], none, false⟩) (.node 279 (.one 277 ⟨.struct [(0, 275), (1, 30)], 2, 32, true, [.nilp, .sl .u8 [] .full], none, false⟩) (.one 279 ⟨.iface, 1, 16, false, [(.err false)], none, false⟩)))) (.node 316 (.node 283 (.one 282 ⟨.func, 1, 8, false, [.nilfn], none, false⟩) (.one 283 ⟨.other, 1, 0, false, [.any], none, false⟩)) (.node 318 (.one 316 ⟨.arr 2 5, 2, 2, true, [(.int .u8 (0 : Int)), (.int .u8 (0 : Int))], some Y10, false⟩) (.node 319 (.one 318 ⟨.func, 1, 8, false, [.nilfn], none, false⟩) (.one 319 ⟨.arr 6 9, 6, 96, true, [(.str []), (.str []), (.str []), (.str []), (.str []), (.str [])], some Y11, false⟩)))))))
theorem tab_ok : tab.all (tiOK Tryz.prog) = true := by kernel_rfl
abbrev FO (g : Nat) (ps : List SV) (rv : RV) (f : arrL ps (Option rv.den)) : Prop := FnOK Tryz.prog SW g ps rv (appL ps f)
theorem mx {X : Type} {fns : List (Nat × Func)} {C : List (Nat × (List AV → Option Entry))} {loops : List (Nat × Nat × List (LoopI X))} {rfs : List (Nat × Nat × Func × List Nat × Nat)}
    {conf : List (Nat × Nat × List (Nat × Nat))} {unroll : List (Nat × Nat × Nat)} {cuts : List (Nat × Nat × List (CutI X))} {rows : List (Nat × Ty)} {pr : List (Nat × Pr)} {bt : Option (Nat × Nat)} {keep : List Nat} (hf : AllT (fun p => Tryz.prog.funcs[p.1]? = some p.2 ∧ p.2.name ≠ "runtime.NumGoroutine") fns)
    (hC : AllT (fun p => OrcOK Tryz.prog SW p.1 p.2) C) (hc : AllT (fun p => okC (mkCx tab.get fns C loops rfs conf unroll cuts rows pr bt keep) p.1 p.2.ntmps (p.2.body.getD .skip)) fns) (hr : AllT (fun q => Tryz.prog.funcs[q.1]? = some q.2.2.1 ∧ lkp fns q.1 = some q.2.2.1) rfs)
    (hp : AllT (fun p => PrOK Tryz.prog SW p.1 p.2) pr := by exact trivial) : CxOK Tryz.prog SW (mkCx tab.get fns C loops rfs conf unroll cuts rows pr bt keep) := mkCx_ok mixed (tabOK tab_ok) hf hC hc hr hp
def qh1 : Shape := ⟨[(1, (.const (.ref 0 0))), (3, V0)], [[.str, V0, V1, V0, V2, V0]], [], [], [], 1, 0, 0⟩
def qe1_0 : Shape := ⟨[(1, (.const (.ref 0 0)))], [[.str, V0, V1, V0, V2, V0]], [], [], [], 1, 0, 0⟩
def qe1_r : Shape := ⟨[(2, .bool)], [[.str, V0, V1, V0, V2, V0]], [], [], [], 1, 0, 0⟩
noncomputable def ql1 (X : Type) (n : Nat) : LoopI X := mkLi 8 0 0 0 qh1 [(0, qe1_0)] [qe1_r] n fun m ks => F.law10_Small.L2 n (xe qe1_0 ks 0) (xr qe1_r ks) m
noncomputable def cx26 (X : Type) (n : Nat) : Cx X := mkCx tab.get [(26, Tryz.f26)] [] [(26, 2, [ql1 X n])] [] [] []
theorem qo1 (X : Type) (n : Nat) : LO (cx26 X n) 26 Tryz.f26 0 (ql1 X n) := lok
theorem cx26_ok (X : Type) (n : Nat) : CxOK Tryz.prog SW (cx26 X n) := mx (T1 (J Tryz.func26 (by decide))) trivial (T1 (okc (T1 (T1 (qo1 X n))) trivial)) trivial
abbrev P26 : List SV := [V3]
abbrev R26 : RV := .one .bool
theorem ok26 (n : Nat) : FO 26 P26 R26 (F.law10_Small n) := fnOK_of WOf.st (cx26_ok _ n) (d := 8) fun _ => by kernel_rfl
noncomputable def o26 (n : Nat) := oc 26 P26 R26 (F.law10_Small n)
def qh2 : Shape := ⟨[(0, V4), (3, V0)], [], [], [], [], 0, 0, 0⟩
def qe2_0 : Shape := ⟨[(0, V4)], [], [], [], [], 0, 0, 0⟩
def qe2_r : Shape := ⟨[(2, .bool)], [], [], [], [], 0, 0, 0⟩
noncomputable def ql2 (X : Type) (n : Nat) : LoopI X := mkLi 8 0 0 0 qh2 [(0, qe2_0)] [qe2_r] n fun m ks => F.law13_Few.L2 n (xe qe2_0 ks 0) (xr qe2_r ks) m
noncomputable def cx9 (X : Type) (n : Nat) : Cx X := mkCx tab.get [(9, Tryz.f9)] [o26 n] [(9, 2, [ql2 X n])] [] [] []
theorem qo2 (X : Type) (n : Nat) : LO (cx9 X n) 9 Tryz.f9 0 (ql2 X n) := lok
theorem cx9_ok (X : Type) (n : Nat) : CxOK Tryz.prog SW (cx9 X n) := mx (T1 (J Tryz.func9 (by decide))) (T1 (orcOf_ok (ok26 n))) (T1 (okc (T1 (T1 (qo2 X n))) trivial)) trivial
abbrev P9 : List SV := [V4]
abbrev R9 : RV := .one .bool
theorem ok9 (n : Nat) : FO 9 P9 R9 (F.law13_Few n) := fnOK_of WOf.st (cx9_ok _ n) (d := 8) fun _ => by kernel_rfl
noncomputable def o9 (n : Nat) := oc 9 P9 R9 (F.law13_Few n)
noncomputable def cx283 (X : Type) (n : Nat) : Cx X := mkCx tab.get [(283, Tryz.f283)] [] [] [] [] []
theorem cx283_ok (X : Type) (n : Nat) : CxOK Tryz.prog SW (cx283 X n) := mx (T1 (J Tryz.func283 (by decide))) trivial (T1 (okc trivial trivial)) trivial
abbrev P283 : List SV := [V0]
abbrev R283 : RV := .one .bool
theorem ok283 (n : Nat) : FO 283 P283 R283 (F.class_may n) := fnOK_of WOf.st (cx283_ok _ n) (d := 8) fun _ => by kernel_rfl
noncomputable def o283 (n : Nat) := oc 283 P283 R283 (F.class_may n)
noncomputable def cx319 (X : Type) (n : Nat) : Cx X := mkCx tab.get [(319, Tryz.f319)] [] [] [] [] []
theorem cx319_ok (X : Type) (n : Nat) : CxOK Tryz.prog SW (cx319 X n) := mx (T1 (J Tryz.func319 (by decide))) trivial (T1 (okc trivial trivial)) trivial
abbrev P319 : List SV := [V5, V5, V5]
abbrev R319 : RV := .one .bool
theorem ok319 (n : Nat) : FO 319 P319 R319 (F.class_between n) := fnOK_of WOf.st (cx319_ok _ n) (d := 8) fun _ => by kernel_rfl
noncomputable def o319 (n : Nat) := oc 319 P319 R319 (F.class_between n)
noncomputable def cx284 (X : Type) (n : Nat) : Cx X := mkCx tab.get [(284, Tryz.f284)] [o319 n] [] [] [] []
theorem cx284_ok (X : Type) (n : Nat) : CxOK Tryz.prog SW (cx284 X n) := mx (T1 (J Tryz.func284 (by decide))) (T1 (orcOf_ok (ok319 n))) (T1 (okc trivial trivial)) trivial
abbrev P284 : List SV := [V0, V5]
abbrev R284 : RV := .one .bool
theorem ok284 (n : Nat) : FO 284 P284 R284 (F.class_Is n) := fnOK_of WOf.st (cx284_ok _ n) (d := 8) fun _ => by kernel_rfl
noncomputable def o284 (n : Nat) := oc 284 P284 R284 (F.class_Is n)
def qh3 : Shape := ⟨[(0, V0), (1, .str), (11, V0), (12, V0)], [], [], [], [], 0, 0, 0⟩
def qe3_0 : Shape := ⟨[], [], [], [], [], 0, 0, 0⟩
def qe3_r : Shape := ⟨[(4, V0), (5, V0)], [], [], [], [], 0, 0, 0⟩
noncomputable def ql3 (X : Type) (n : Nat) : LoopI X := mkLi 8 0 0 0 qh3 [(0, qe3_0)] [qe3_r] n fun m ks => F.class_Bad.L4 n (fun _ => xe qe3_0 ks 0) (xr qe3_r ks) m
noncomputable def cx232 (X : Type) (n : Nat) : Cx X := mkCx tab.get [(232, Tryz.f232)] [o283 n, o284 n] [(232, 4, [ql3 X n])] [] [] []
theorem qo3 (X : Type) (n : Nat) : LO (cx232 X n) 232 Tryz.f232 0 (ql3 X n) := lok
theorem cx232_ok (X : Type) (n : Nat) : CxOK Tryz.prog SW (cx232 X n) := mx (T1 (J Tryz.func232 (by decide))) (J (orcOf_ok (ok283 n)) (T1 (orcOf_ok (ok284 n)))) (T1 (okc (T1 (T1 (qo3 X n))) trivial)) trivial
abbrev P232 : List SV := [V0, .str]
abbrev R232 : RV := .many [V0, V0]
theorem ok232 (n : Nat) : FO 232 P232 R232 (F.class_Bad n) := fnOK_of WOf.st (cx232_ok _ n) (d := 8) fun _ => by kernel_rfl
noncomputable def o232 (n : Nat) := oc 232 P232 R232 (F.class_Bad n)
noncomputable def cx168 (X : Type) (n : Nat) : Cx X := mkCx tab.get [(168, Tryz.f168)] [o232 n] [] [] [] []
theorem cx168_ok (X : Type) (n : Nat) : CxOK Tryz.prog SW (cx168 X n) := mx (T1 (J Tryz.func168 (by decide))) (T1 (orcOf_ok (ok232 n))) (T1 (okc trivial trivial)) trivial
abbrev P168 : List SV := [V0, .str, V0, V0]
abbrev R168 : RV := .one V6
theorem ok168 (n : Nat) : FO 168 P168 R168 (F.class_Text n) := fnOK_of WOf.st (cx168_ok _ n) (d := 8) fun _ => by kernel_rfl
noncomputable def o168 (n : Nat) := oc 168 P168 R168 (F.class_Text n)
noncomputable def cx103 (X : Type) (n : Nat) : Cx X := mkCx tab.get [(103, Tryz.f103)] [o168 n] [] [] [] []
theorem cx103_ok (X : Type) (n : Nat) : CxOK Tryz.prog SW (cx103 X n) := mx (T1 (J Tryz.func103 (by decide))) (T1 (orcOf_ok (ok168 n))) (T1 (okc trivial trivial)) trivial
abbrev P103 : List SV := [V3]
abbrev R103 : RV := .one .bool
theorem ok103 (n : Nat) : FO 103 P103 R103 (F.metric_look_name n) := fnOK_of WOf.st (cx103_ok _ n) (d := 8) fun _ => by kernel_rfl
noncomputable def o103 (n : Nat) := oc 103 P103 R103 (F.metric_look_name n)
noncomputable def cx169 (X : Type) (n : Nat) : Cx X := mkCx tab.get [(169, Tryz.f169)] [] [] [] [] []
theorem cx169_ok (X : Type) (n : Nat) : CxOK Tryz.prog SW (cx169 X n) := mx (T1 (J Tryz.func169 (by decide))) trivial (T1 (okc trivial trivial)) trivial
abbrev P169 : List SV := [V0, V0, V0]
abbrev R169 : RV := .one .bool
theorem ok169 (n : Nat) : FO 169 P169 R169 (F.metric_between n) := fnOK_of WOf.st (cx169_ok _ n) (d := 8) fun _ => by kernel_rfl
noncomputable def o169 (n : Nat) := oc 169 P169 R169 (F.metric_between n)
noncomputable def cx104 (X : Type) (n : Nat) : Cx X := mkCx tab.get [(104, Tryz.f104)] [o169 n] [] [] [] []
theorem cx104_ok (X : Type) (n : Nat) : CxOK Tryz.prog SW (cx104 X n) := mx (T1 (J Tryz.func104 (by decide))) (T1 (orcOf_ok (ok169 n))) (T1 (okc trivial trivial)) trivial
abbrev P104 : List SV := [V3]
abbrev R104 : RV := .one .bool
theorem ok104 (n : Nat) : FO 104 P104 R104 (F.metric_look_kind n) := fnOK_of WOf.st (cx104_ok _ n) (d := 8) fun _ => by kernel_rfl
noncomputable def o104 (n : Nat) := oc 104 P104 R104 (F.metric_look_kind n)
abbrev P176 : List SV := [V7, V7]
abbrev R176 : RV := .many [V7, V7]
theorem ok176 (n : Nat) : FO 176 P176 R176 (O.mul64 n) := mul64_ok (enters Tryz.func176 (by kernel_rfl) (by decide)) Tryz.bits_Mul64 n
noncomputable def o176 (n : Nat) := oc 176 P176 R176 (O.mul64 n)
abbrev P177 : List SV := [V7, V7, V7]
abbrev R177 : RV := .many [V7, V7]
theorem ok177 (n : Nat) : FO 177 P177 R177 (O.add64 n) := add64_ok (fun x y c hx hy hc w => by rw [run_callFunc_extern Tryz.func177 (by kernel_rfl) (by kernel_rfl) (by kernel_rfl) (e := Go.add64Entry) (by kernel_rfl), Go.run_add64 x y c (by omega) (by omega) (by omega) (by omega)]; simp only [Result.andThen]; congr 5 <;> omega) n
noncomputable def o177 (n : Nat) := oc 177 P177 R177 (O.add64 n)
noncomputable def cx112 (X : Type) (n : Nat) : Cx X := mkCx tab.get [(112, Tryz.f112)] [o176 n, o177 n] [] [] [] []
theorem cx112_ok (X : Type) (n : Nat) : CxOK Tryz.prog SW (cx112 X n) := mx (T1 (J Tryz.func112 (by decide))) (J (orcOf_ok (ok176 n)) (T1 (orcOf_ok (ok177 n)))) (T1 (okc trivial trivial)) trivial
abbrev P112 : List SV := [V7, V7]
abbrev R112 : RV := .many [V7, .bool]
theorem ok112 (n : Nat) : FO 112 P112 R112 (F.dec_times n) := fnOK_of WOf.st (cx112_ok _ n) (d := 8) fun _ => by kernel_rfl
noncomputable def o112 (n : Nat) := oc 112 P112 R112 (F.dec_times n)
def qh4 : Shape := ⟨[(1, (.const (.ref 0 0))), (2, (.const (.ref 1 0)))], [[.bool, V7, V0], [.bool, V7, V0]], [], [], [], 2, 0, 0⟩
def qe4_0 : Shape := ⟨[(1, (.const (.ref 0 0))), (2, (.const (.ref 1 0)))], [[.bool, V7, V0], [.bool, V7, V0]], [], [], [], 2, 0, 0⟩
noncomputable def ql4 (X : Type) (n : Nat) : LoopI X := mkLi 8 0 0 0 qh4 [(0, qe4_0)] [] n fun m ks => F.dec_Normal.L3 n (xe qe4_0 ks 0) m
def qh5 : Shape := ⟨[(1, (.const (.ref 0 0))), (2, (.const (.ref 1 0)))], [[.bool, V7, V0], [.bool, V7, V0]], [], [], [], 2, 0, 0⟩
def qe5_2 : Shape := ⟨[(1, (.const (.ref 0 0))), (2, (.const (.ref 1 0)))], [[.bool, V7, V0], [.bool, V7, V0]], [], [], [], 2, 0, 0⟩
def qe5_r : Shape := ⟨[(2, (.const (.ref 1 0))), (3, V0)], [[.bool, V7, V0], [.bool, V7, V0]], [], [], [], 2, 0, 0⟩
noncomputable def ql5 (X : Type) (n : Nat) : LoopI X := mkLi 8 0 0 0 qh5 [(2, qe5_2)] [qe5_r] n fun m ks => F.dec_Normal.L5 n (xe qe5_2 ks 2) (xr qe5_r ks) m
noncomputable def cx72 (X : Type) (n : Nat) : Cx X := mkCx tab.get [(72, Tryz.f72)] [o112 n] [(72, 3, [ql4 X n]), (72, 5, [ql5 X n])] [] [] []
theorem qo4 (X : Type) (n : Nat) : LO (cx72 X n) 72 Tryz.f72 0 (ql4 X n) := lok
theorem qo5 (X : Type) (n : Nat) : LO (cx72 X n) 72 Tryz.f72 1 (ql5 X n) := lok
theorem cx72_ok (X : Type) (n : Nat) : CxOK Tryz.prog SW (cx72 X n) := mx (T1 (J Tryz.func72 (by decide))) (T1 (orcOf_ok (ok112 n))) (T1 (okc (J (T1 (qo4 X n)) (T1 (T1 (qo5 X n)))) trivial)) trivial
abbrev P72 : List SV := [V8]
abbrev R72 : RV := .many [V8, V0]
theorem ok72 (n : Nat) : FO 72 P72 R72 (F.dec_Normal n) := fnOK_of WOf.st (cx72_ok _ n) (d := 8) fun _ => by kernel_rfl
noncomputable def o72 (n : Nat) := oc 72 P72 R72 (F.dec_Normal n)
noncomputable def cx172 (X : Type) (n : Nat) : Cx X := mkCx tab.get [(172, Tryz.f172)] [o72 n] [] [] [] []
theorem cx172_ok (X : Type) (n : Nat) : CxOK Tryz.prog SW (cx172 X n) := mx (T1 (J Tryz.func172 (by decide))) (T1 (orcOf_ok (ok72 n))) (T1 (okc trivial trivial)) trivial
abbrev P172 : List SV := [V8]
abbrev R172 : RV := .one V0
theorem ok172 (n : Nat) : FO 172 P172 R172 (F.dec_Check n) := fnOK_of WOf.st (cx172_ok _ n) (d := 8) fun _ => by kernel_rfl
noncomputable def o172 (n : Nat) := oc 172 P172 R172 (F.dec_Check n)
noncomputable def cx171 (X : Type) (n : Nat) : Cx X := mkCx tab.get [(171, Tryz.f171)] [o172 n] [] [] [] []
theorem cx171_ok (X : Type) (n : Nat) : CxOK Tryz.prog SW (cx171 X n) := mx (T1 (J Tryz.func171 (by decide))) (T1 (orcOf_ok (ok172 n))) (T1 (okc trivial trivial)) trivial
abbrev P171 : List SV := [V8]
abbrev R171 : RV := .one .bool
theorem ok171 (n : Nat) : FO 171 P171 R171 (F.metric_look_values_1 n) := fnOK_of WOf.st (cx171_ok _ n) (d := 8) fun _ => by kernel_rfl
noncomputable def o171 (n : Nat) := oc 171 P171 R171 (F.metric_look_values_1 n)
def qh6 : Shape := ⟨[(0, V1), (1, (.const (.fn 171 [] []))), (7, V0), (8, V0)], [[.str, V0, V1, V0, V2, V0]], [], [], [], 1, 0, 0⟩
def qe6_0 : Shape := ⟨[], [[.str, V0, V1, V0, V2, V0]], [], [], [], 1, 0, 0⟩
def qe6_r : Shape := ⟨[(4, V0)], [[.str, V0, V1, V0, V2, V0]], [], [], [], 1, 0, 0⟩
noncomputable def ql6 (X : Type) (n : Nat) : LoopI X := mkLi 6 1 0 0 qh6 [(0, qe6_0)] [qe6_r] n fun m ks => F.metric_look_values.L2_slices_IndexFunc_api_Dec_api_Dec n (xe qe6_0 ks 0) (xr qe6_r ks) m
noncomputable def cx105 (X : Type) (n : Nat) : Cx X := mkCx tab.get [(105, Tryz.f105), (170, Tryz.f170), (233, Tryz.f233)] [o169 n, o171 n] [(233, 2, [ql6 X n])] [] [] []
theorem qo6 (X : Type) (n : Nat) : LO (cx105 X n) 233 Tryz.f233 0 (ql6 X n) := lok
theorem cx105_ok (X : Type) (n : Nat) : CxOK Tryz.prog SW (cx105 X n) := mx (J (J Tryz.func105 (by decide)) (J (J Tryz.func170 (by decide)) (T1 (J Tryz.func233 (by decide))))) (J (orcOf_ok (ok169 n)) (T1 (orcOf_ok (ok171 n)))) (J (okc trivial trivial) (J (okc trivial trivial) (T1 (okc (T1 (T1 (qo6 X n))) trivial)))) trivial
abbrev P105 : List SV := [V3]
abbrev R105 : RV := .one .bool
theorem ok105 (n : Nat) : FO 105 P105 R105 (F.metric_look_values n) := fnOK_of WOf.st (cx105_ok _ n) (d := 8) fun _ => by kernel_rfl
noncomputable def o105 (n : Nat) := oc 105 P105 R105 (F.metric_look_values n)
noncomputable def cx106 (X : Type) (n : Nat) : Cx X := mkCx tab.get [(106, Tryz.f106)] [o169 n] [] [] [] []
theorem cx106_ok (X : Type) (n : Nat) : CxOK Tryz.prog SW (cx106 X n) := mx (T1 (J Tryz.func106 (by decide))) (T1 (orcOf_ok (ok169 n))) (T1 (okc trivial trivial)) trivial
abbrev P106 : List SV := [V3]
abbrev R106 : RV := .one .bool
theorem ok106 (n : Nat) : FO 106 P106 R106 (F.metric_look_rate n) := fnOK_of WOf.st (cx106_ok _ n) (d := 8) fun _ => by kernel_rfl
noncomputable def o106 (n : Nat) := oc 106 P106 R106 (F.metric_look_rate n)
noncomputable def cx175 (X : Type) (n : Nat) : Cx X := mkCx tab.get [(175, Tryz.f175)] [o168 n] [] [] [] []
theorem cx175_ok (X : Type) (n : Nat) : CxOK Tryz.prog SW (cx175 X n) := mx (T1 (J Tryz.func175 (by decide))) (T1 (orcOf_ok (ok168 n))) (T1 (okc trivial trivial)) trivial
abbrev P175 : List SV := [V9]
abbrev R175 : RV := .one V0
theorem ok175 (n : Nat) : FO 175 P175 R175 (F.tag_Check n) := fnOK_of WOf.st (cx175_ok _ n) (d := 8) fun _ => by kernel_rfl
noncomputable def o175 (n : Nat) := oc 175 P175 R175 (F.tag_Check n)
noncomputable def cx174 (X : Type) (n : Nat) : Cx X := mkCx tab.get [(174, Tryz.f174)] [o175 n] [] [] [] []
theorem cx174_ok (X : Type) (n : Nat) : CxOK Tryz.prog SW (cx174 X n) := mx (T1 (J Tryz.func174 (by decide))) (T1 (orcOf_ok (ok175 n))) (T1 (okc trivial trivial)) trivial
abbrev P174 : List SV := [V9]
abbrev R174 : RV := .one .bool
theorem ok174 (n : Nat) : FO 174 P174 R174 (F.metric_look_tags_1 n) := fnOK_of WOf.st (cx174_ok _ n) (d := 8) fun _ => by kernel_rfl
noncomputable def o174 (n : Nat) := oc 174 P174 R174 (F.metric_look_tags_1 n)
def qh7 : Shape := ⟨[(0, V2), (1, (.const (.fn 174 [] []))), (7, V0), (8, V0)], [[.str, V0, V1, V0, V2, V0]], [], [], [], 1, 0, 0⟩
def qe7_0 : Shape := ⟨[], [[.str, V0, V1, V0, V2, V0]], [], [], [], 1, 0, 0⟩
def qe7_r : Shape := ⟨[(4, V0)], [[.str, V0, V1, V0, V2, V0]], [], [], [], 1, 0, 0⟩
noncomputable def ql7 (X : Type) (n : Nat) : LoopI X := mkLi 6 1 0 0 qh7 [(0, qe7_0)] [qe7_r] n fun m ks => F.metric_look_tags.L2_slices_IndexFunc_api_Tag_api_Tag n (xe qe7_0 ks 0) (xr qe7_r ks) m
noncomputable def cx107 (X : Type) (n : Nat) : Cx X := mkCx tab.get [(107, Tryz.f107), (173, Tryz.f173), (234, Tryz.f234)] [o174 n] [(234, 2, [ql7 X n])] [] [] []
theorem qo7 (X : Type) (n : Nat) : LO (cx107 X n) 234 Tryz.f234 0 (ql7 X n) := lok
theorem cx107_ok (X : Type) (n : Nat) : CxOK Tryz.prog SW (cx107 X n) := mx (J (J Tryz.func107 (by decide)) (J (J Tryz.func173 (by decide)) (T1 (J Tryz.func234 (by decide))))) (T1 (orcOf_ok (ok174 n))) (J (okc trivial trivial) (J (okc trivial trivial) (T1 (okc (T1 (T1 (qo7 X n))) trivial)))) trivial
abbrev P107 : List SV := [V3]
abbrev R107 : RV := .one .bool
theorem ok107 (n : Nat) : FO 107 P107 R107 (F.metric_look_tags n) := fnOK_of WOf.st (cx107_ok _ n) (d := 8) fun _ => by kernel_rfl
noncomputable def o107 (n : Nat) := oc 107 P107 R107 (F.metric_look_tags n)
noncomputable def cx108 (X : Type) (n : Nat) : Cx X := mkCx tab.get [(108, Tryz.f108)] [o169 n] [] [] [] []
theorem cx108_ok (X : Type) (n : Nat) : CxOK Tryz.prog SW (cx108 X n) := mx (T1 (J Tryz.func108 (by decide))) (T1 (orcOf_ok (ok169 n))) (T1 (okc trivial trivial)) trivial
abbrev P108 : List SV := [V3]
abbrev R108 : RV := .one .bool
theorem ok108 (n : Nat) : FO 108 P108 R108 (F.metric_look_time n) := fnOK_of WOf.st (cx108_ok _ n) (d := 8) fun _ => by kernel_rfl
noncomputable def o108 (n : Nat) := oc 108 P108 R108 (F.metric_look_time n)
def qh8 : Shape := ⟨[(26, V10), (27, V0)], [[.str, V0, V1, V0, V2, V0], [.str, V0, V1, V0, V2, V0]], [], [], [], 2, 0, 0⟩
def qe8_0 : Shape := ⟨[], [[.str, V0, V1, V0, V2, V0], [.str, V0, V1, V0, V2, V0]], [], [], [], 2, 0, 0⟩
def qe8_r : Shape := ⟨[(2, V0)], [[.str, V0, V1, V0, V2, V0], [.str, V0, V1, V0, V2, V0]], [], [], [], 2, 0, 0⟩
noncomputable def ql8 (X : Type) (n : Nat) : LoopI X := mkLi 8 0 0 0 qh8 [(0, qe8_0)] [qe8_r] n fun m ks => F.metric_Check.L3 n (xe qe8_0 ks 0) (xr qe8_r ks) m
noncomputable def cx67 (X : Type) (n : Nat) : Cx X := mkCx tab.get [(67, Tryz.f67)] [o103 n, o104 n, o105 n, o106 n, o107 n, o108 n] [(67, 3, [ql8 X n])] [] [] []
theorem qo8 (X : Type) (n : Nat) : LO (cx67 X n) 67 Tryz.f67 0 (ql8 X n) := lok
theorem cx67_ok (X : Type) (n : Nat) : CxOK Tryz.prog SW (cx67 X n) := mx (T1 (J Tryz.func67 (by decide))) (J (orcOf_ok (ok103 n)) (J (orcOf_ok (ok104 n)) (J (orcOf_ok (ok105 n)) (J (orcOf_ok (ok106 n)) (J (orcOf_ok (ok107 n)) (T1 (orcOf_ok (ok108 n)))))))) (T1 (okc (T1 (T1 (qo8 X n))) trivial)) trivial
abbrev P67 : List SV := [V3]
abbrev R67 : RV := .one V0
theorem ok67 (n : Nat) : FO 67 P67 R67 (F.metric_Check n) := fnOK_of WOf.st (cx67_ok _ n) (d := 8) fun _ => by kernel_rfl
noncomputable def o67 (n : Nat) := oc 67 P67 R67 (F.metric_Check n)
noncomputable def cx66 (X : Type) (n : Nat) : Cx X := mkCx tab.get [(66, Tryz.f66)] [o67 n] [] [] [] []
theorem cx66_ok (X : Type) (n : Nat) : CxOK Tryz.prog SW (cx66 X n) := mx (T1 (J Tryz.func66 (by decide))) (T1 (orcOf_ok (ok67 n))) (T1 (okc trivial trivial)) trivial
abbrev P66 : List SV := [V3]
abbrev R66 : RV := .many [.bool, V0]
theorem ok66 (n : Nat) : FO 66 P66 R66 (F.batch_Check_1 n) := fnOK_of WOf.st (cx66_ok _ n) (d := 8) fun _ => by kernel_rfl
noncomputable def o66 (n : Nat) := oc 66 P66 R66 (F.batch_Check_1 n)
def qh9 : Shape := ⟨[(0, (.const (.yield 0))), (2, (.const (.ref 5 0))), (8, V4), (9, V0), (10, V0)], [[(.sl .bool (.own 0))], [V0], [V0], [(.sl .bool (.own 1))], [V4], [(.const (.fn 66 [] []))]], [true, true], [.ready], [(0, 65, 5, [(4, (.const (.ref 0 0))), (5, (.const (.ref 1 0))), (6, (.const (.ref 2 0))), (7, (.const (.ref 3 0)))])], 6, 0, 1⟩
def qe9_0 : Shape := ⟨[], [[(.sl .bool (.own 0))], [V0], [V0], [(.sl .bool (.own 1))], [V4], [(.const (.fn 66 [] []))]], [true, true], [.ready], [], 6, 0, 1⟩
def qe9_r : Shape := ⟨[], [[(.sl .bool (.own 0))], [V0], [V0], [(.sl .bool (.own 1))], [V4], [(.const (.fn 66 [] []))]], [true, true], [.done .ret], [], 6, 0, 1⟩
def qe9_rx1 : Shape := ⟨[], [[(.sl .bool (.own 0))], [V0], [V0], [(.sl .bool (.own 1))], [V4], [(.const (.fn 66 [] []))]], [true, true], [.ready], [], 6, 0, 1⟩
noncomputable def ql9 (X : Type) (n : Nat) : LoopI X := mkLi 6 6 0 1 qh9 [(0, qe9_0)] [qe9_r, qe9_rx1] n fun m ks => F.batch_Check.L1_batch_all_bool_1 n (xe qe9_0 ks 0) (xr qe9_r ks) (xr qe9_rx1 ks) m
noncomputable def cx38 (X : Type) (n : Nat) : Cx X := mkCx tab.get [(38, Tryz.f38), (65, Tryz.f65), (102, Tryz.f102), (167, Tryz.f167)] [o66 n] [(167, 1, [ql9 X n])] [(65, 5, Tryz.f65, [4, 5, 6, 7], 0)] [(65, 8, [(0, 3)])] []
theorem qo9 (X : Type) (n : Nat) : LO (cx38 X n) 167 Tryz.f167 0 (ql9 X n) := lok
theorem cx38_ok (X : Type) (n : Nat) : CxOK Tryz.prog SW (cx38 X n) := mx (J (J Tryz.func38 (by decide)) (J (J Tryz.func65 (by decide)) (J (J Tryz.func102 (by decide)) (T1 (J Tryz.func167 (by decide)))))) (T1 (orcOf_ok (ok66 n))) (J (okc trivial trivial) (J (okc trivial (T1 (rfo (cx := cx38 X n) (g := 65) (i := 5) (lv := [4, 5, 6, 7]) (show _ = some (Tryz.f65.ntmps, _, rfNo Tryz.f65 0) by kernel_rfl)))) (J (okc trivial trivial) (T1 (okc (T1 (T1 (qo9 X n))) trivial))))) (T1 (J Tryz.func65 rfl))
abbrev P38 : List SV := [V4]
abbrev R38 : RV := .many [V0, V0]
theorem ok38 (n : Nat) : FO 38 P38 R38 (F.batch_Check n) := fnOK_of WOf.st (cx38_ok _ n) (d := 8) fun _ => by kernel_rfl
noncomputable def o38 (n : Nat) := oc 38 P38 R38 (F.batch_Check n)
noncomputable def cx101 (X : Type) (n : Nat) : Cx X := mkCx tab.get [(101, Tryz.f101)] [] [] [] [] []
theorem cx101_ok (X : Type) (n : Nat) : CxOK Tryz.prog SW (cx101 X n) := mx (T1 (J Tryz.func101 (by decide))) trivial (T1 (okc trivial trivial)) trivial
abbrev P101 : List SV := [V3]
abbrev R101 : RV := .one .bool
theorem ok101 (n : Nat) : FO 101 P101 R101 (F.expr_said_bare n) := fnOK_of WOf.st (cx101_ok _ n) (d := 8) fun _ => by kernel_rfl
noncomputable def o101 (n : Nat) := oc 101 P101 R101 (F.expr_said_bare n)
noncomputable def cx62 (X : Type) (n : Nat) : Cx X := mkCx tab.get [(62, Tryz.f62)] [o101 n] [] [] [] []
theorem cx62_ok (X : Type) (n : Nat) : CxOK Tryz.prog SW (cx62 X n) := mx (T1 (J Tryz.func62 (by decide))) (T1 (orcOf_ok (ok101 n))) (T1 (okc trivial trivial)) trivial
abbrev P62 : List SV := [V3]
abbrev R62 : RV := .one .bool
theorem ok62 (n : Nat) : FO 62 P62 R62 (F.expr_said_statsd n) := fnOK_of WOf.st (cx62_ok _ n) (d := 8) fun _ => by kernel_rfl
noncomputable def o62 (n : Nat) := oc 62 P62 R62 (F.expr_said_statsd n)
noncomputable def cx63 (X : Type) (n : Nat) : Cx X := mkCx tab.get [(63, Tryz.f63)] [] [] [] [] []
theorem cx63_ok (X : Type) (n : Nat) : CxOK Tryz.prog SW (cx63 X n) := mx (T1 (J Tryz.func63 (by decide))) trivial (T1 (okc trivial trivial)) trivial
abbrev P63 : List SV := [V3]
abbrev R63 : RV := .one .bool
theorem ok63 (n : Nat) : FO 63 P63 R63 (F.expr_said_any n) := fnOK_of WOf.st (cx63_ok _ n) (d := 8) fun _ => by kernel_rfl
noncomputable def o63 (n : Nat) := oc 63 P63 R63 (F.expr_said_any n)
noncomputable def cx64 (X : Type) (n : Nat) : Cx X := mkCx tab.get [(64, Tryz.f64)] [o101 n] [] [] [] []
theorem cx64_ok (X : Type) (n : Nat) : CxOK Tryz.prog SW (cx64 X n) := mx (T1 (J Tryz.func64 (by decide))) (T1 (orcOf_ok (ok101 n))) (T1 (okc trivial trivial)) trivial
abbrev P64 : List SV := [V3]
abbrev R64 : RV := .one .bool
theorem ok64 (n : Nat) : FO 64 P64 R64 (F.expr_said_graphite n) := fnOK_of WOf.st (cx64_ok _ n) (d := 8) fun _ => by kernel_rfl
noncomputable def o64 (n : Nat) := oc 64 P64 R64 (F.expr_said_graphite n)
def qh10 : Shape := ⟨[(6, (.const (.fn 62 [] []))), (29, V4), (30, V0), (31, V0)], [[(.const (.fmp [(1, 62), (2, 63), (3, 64), (4, 63)]))]], [], [], [], 1, 0, 0⟩
def qe10_0 : Shape := ⟨[], [[(.const (.fmp [(1, 62), (2, 63), (3, 64), (4, 63)]))]], [], [], [], 1, 0, 0⟩
def qe10_r : Shape := ⟨[(4, V0), (5, V0)], [[(.const (.fmp [(1, 62), (2, 63), (3, 64), (4, 63)]))]], [], [], [], 1, 0, 0⟩
noncomputable def ql10 (X : Type) (n : Nat) : LoopI X := mkLi 8 0 0 0 qh10 [(0, qe10_0)] [qe10_r] n fun m ks => F.expr_Batch.L8 n (fun _ => xe qe10_0 ks 0) (xr qe10_r ks) m
def qh11 : Shape := ⟨[(6, (.const (.fn 63 [] []))), (29, V4), (30, V0), (31, V0)], [[(.const (.fmp [(1, 62), (2, 63), (3, 64), (4, 63)]))]], [], [], [], 1, 0, 0⟩
def qe11_0 : Shape := ⟨[], [[(.const (.fmp [(1, 62), (2, 63), (3, 64), (4, 63)]))]], [], [], [], 1, 0, 0⟩
def qe11_r : Shape := ⟨[(4, V0), (5, V0)], [[(.const (.fmp [(1, 62), (2, 63), (3, 64), (4, 63)]))]], [], [], [], 1, 0, 0⟩
noncomputable def ql11 (X : Type) (n : Nat) : LoopI X := mkLi 8 0 0 0 qh11 [(0, qe11_0)] [qe11_r] n fun m ks => F.expr_Batch.L8_1 n (fun _ => xe qe11_0 ks 0) (xr qe11_r ks) m
def qh12 : Shape := ⟨[(6, (.const (.fn 64 [] []))), (29, V4), (30, V0), (31, V0)], [[(.const (.fmp [(1, 62), (2, 63), (3, 64), (4, 63)]))]], [], [], [], 1, 0, 0⟩
def qe12_0 : Shape := ⟨[], [[(.const (.fmp [(1, 62), (2, 63), (3, 64), (4, 63)]))]], [], [], [], 1, 0, 0⟩
def qe12_r : Shape := ⟨[(4, V0), (5, V0)], [[(.const (.fmp [(1, 62), (2, 63), (3, 64), (4, 63)]))]], [], [], [], 1, 0, 0⟩
noncomputable def ql12 (X : Type) (n : Nat) : LoopI X := mkLi 8 0 0 0 qh12 [(0, qe12_0)] [qe12_r] n fun m ks => F.expr_Batch.L8_2 n (fun _ => xe qe12_0 ks 0) (xr qe12_r ks) m
noncomputable def cx22 (X : Type) (n : Nat) : Cx X := mkCx tab.get [(22, Tryz.f22)] [o38 n, o62 n, o63 n, o64 n] [(22, 8, [ql10 X n, ql11 X n, ql12 X n])] [] [] [] [] [] [(37, .fmts [(1, 62), (2, 63), (3, 64), (4, 63)])] none []
theorem qo10 (X : Type) (n : Nat) : LO (cx22 X n) 22 Tryz.f22 0 (ql10 X n) := lok
theorem qo11 (X : Type) (n : Nat) : LO (cx22 X n) 22 Tryz.f22 0 (ql11 X n) := lok
theorem qo12 (X : Type) (n : Nat) : LO (cx22 X n) 22 Tryz.f22 0 (ql12 X n) := lok
theorem cx22_ok (X : Type) (n : Nat) : CxOK Tryz.prog SW (cx22 X n) := mx (T1 (J Tryz.func22 (by decide))) (J (orcOf_ok (ok38 n)) (J (orcOf_ok (ok62 n)) (J (orcOf_ok (ok63 n)) (T1 (orcOf_ok (ok64 n)))))) (T1 (okc (T1 (J (qo10 X n) (J (qo11 X n) (T1 (qo12 X n))))) trivial)) trivial (T1 (fmts_ok.mono (fun _ _ => trivial)))
abbrev P22 : List SV := [V4, V0]
abbrev R22 : RV := .many [V0, V0]
theorem ok22 (n : Nat) : FO 22 P22 R22 (F.expr_Batch n) := fnOK_of WOf.st (cx22_ok _ n) (d := 8) fun _ => by kernel_rfl
noncomputable def o22 (n : Nat) := oc 22 P22 R22 (F.expr_Batch n)
noncomputable def cx46 (X : Type) (n : Nat) : Cx X := mkCx tab.get [(46, Tryz.f46)] [o62 n, o63 n, o64 n, o67 n] [] [] [] [] [] [] [(37, .fmts [(1, 62), (2, 63), (3, 64), (4, 63)])] none []
theorem cx46_ok (X : Type) (n : Nat) : CxOK Tryz.prog SW (cx46 X n) := mx (T1 (J Tryz.func46 (by decide))) (J (orcOf_ok (ok62 n)) (J (orcOf_ok (ok63 n)) (J (orcOf_ok (ok64 n)) (T1 (orcOf_ok (ok67 n)))))) (T1 (okc trivial trivial)) trivial (T1 (fmts_ok.mono (fun _ _ => trivial)))
abbrev P46 : List SV := [V3, V0]
abbrev R46 : RV := .one V0
theorem ok46 (n : Nat) : FO 46 P46 R46 (F.expr_Metric n) := fnOK_of WOf.st (cx46_ok _ n) (d := 8) fun _ => by kernel_rfl
noncomputable def o46 (n : Nat) := oc 46 P46 R46 (F.expr_Metric n)
noncomputable def cx71 (X : Type) (n : Nat) : Cx X := mkCx tab.get [(71, Tryz.f71)] [] [] [] [] []
theorem cx71_ok (X : Type) (n : Nat) : CxOK Tryz.prog SW (cx71 X n) := mx (T1 (J Tryz.func71 (by decide))) trivial (T1 (okc trivial trivial)) trivial
abbrev P71 : List SV := [V1]
abbrev R71 : RV := .one V1
theorem ok71 (n : Nat) : FO 71 P71 R71 (F.slices_Clone_api_Dec_api_Dec n) := fnOK_of WOf.st (cx71_ok _ n) (d := 8) fun _ => by kernel_rfl
noncomputable def o71 (n : Nat) := oc 71 P71 R71 (F.slices_Clone_api_Dec_api_Dec n)
noncomputable def cx87 (X : Type) (n : Nat) : Cx X := mkCx tab.get [(87, Tryz.f87)] [] [] [] [] []
theorem cx87_ok (X : Type) (n : Nat) : CxOK Tryz.prog SW (cx87 X n) := mx (T1 (J Tryz.func87 (by decide))) trivial (T1 (okc trivial trivial)) trivial
abbrev P87 : List SV := [V2]
abbrev R87 : RV := .one V2
theorem ok87 (n : Nat) : FO 87 P87 R87 (F.slices_Clone_api_Tag_api_Tag n) := fnOK_of WOf.st (cx87_ok _ n) (d := 8) fun _ => by kernel_rfl
noncomputable def o87 (n : Nat) := oc 87 P87 R87 (F.slices_Clone_api_Tag_api_Tag n)
noncomputable def cx47 (X : Type) (n : Nat) : Cx X := mkCx tab.get [(47, Tryz.f47)] [o71 n, o87 n] [] [] [] []
theorem cx47_ok (X : Type) (n : Nat) : CxOK Tryz.prog SW (cx47 X n) := mx (T1 (J Tryz.func47 (by decide))) (J (orcOf_ok (ok71 n)) (T1 (orcOf_ok (ok87 n)))) (T1 (okc trivial trivial)) trivial
abbrev P47 : List SV := [V3]
abbrev R47 : RV := .one V3
theorem ok47 (n : Nat) : FO 47 P47 R47 (F.metric_Clone n) := fnOK_of WOf.st (cx47_ok _ n) (d := 8) fun _ => by kernel_rfl
noncomputable def o47 (n : Nat) := oc 47 P47 R47 (F.metric_Clone n)
def qh13 : Shape := ⟨[(1, (.const (.ref 0 0))), (5, (.sl Y6 (.own 0))), (15, V1), (16, V0), (17, V0)], [[.str, V0, V1, V0, V2, V0]], [true], [], [], 1, 0, 0⟩
def qe13_0 : Shape := ⟨[(5, (.sl Y6 (.own 0)))], [[.str, V0, V1, V0, V2, V0]], [true], [], [], 1, 0, 0⟩
noncomputable def ql13 (X : Type) (n : Nat) : LoopI X := mkLi 8 0 0 0 qh13 [(0, qe13_0)] [] n fun m ks => F.metric_Split.L6 n (xe qe13_0 ks 0) m
noncomputable def cx48 (X : Type) (n : Nat) : Cx X := mkCx tab.get [(48, Tryz.f48)] [o47 n, o67 n] [(48, 6, [ql13 X n])] [] [] []
theorem qo13 (X : Type) (n : Nat) : LO (cx48 X n) 48 Tryz.f48 0 (ql13 X n) := lok
theorem cx48_ok (X : Type) (n : Nat) : CxOK Tryz.prog SW (cx48 X n) := mx (T1 (J Tryz.func48 (by decide))) (J (orcOf_ok (ok47 n)) (T1 (orcOf_ok (ok67 n)))) (T1 (okc (T1 (T1 (qo13 X n))) trivial)) trivial
abbrev P48 : List SV := [V3]
abbrev R48 : RV := .many [V4, V0]
theorem ok48 (n : Nat) : FO 48 P48 R48 (F.metric_Split n) := fnOK_of WOf.st (cx48_ok _ n) (d := 8) fun _ => by kernel_rfl
noncomputable def o48 (n : Nat) := oc 48 P48 R48 (F.metric_Split n)
def qh14 : Shape := ⟨[(1, V0), (8, (.sl Y6 (.own 0))), (32, V4), (33, V0), (34, V0)], [[.str, V0, V1, V0, V2, V0]], [true], [], [], 1, 0, 0⟩
def qe14_1 : Shape := ⟨[(8, (.sl Y6 (.own 0)))], [[.str, V0, V1, V0, V2, V0]], [true], [], [], 1, 0, 0⟩
noncomputable def ql14 (X : Type) (n : Nat) : LoopI X := mkLi 8 0 0 0 qh14 [(1, qe14_1)] [] n fun m ks => F.expr_Cut.L11 n (xe qe14_1 ks 1) m
noncomputable def cx28 (X : Type) (n : Nat) : Cx X := mkCx tab.get [(28, Tryz.f28)] [o46 n, o47 n, o48 n] [(28, 11, [ql14 X n])] [] [] []
theorem qo14 (X : Type) (n : Nat) : LO (cx28 X n) 28 Tryz.f28 0 (ql14 X n) := lok
theorem cx28_ok (X : Type) (n : Nat) : CxOK Tryz.prog SW (cx28 X n) := mx (T1 (J Tryz.func28 (by decide))) (J (orcOf_ok (ok46 n)) (J (orcOf_ok (ok47 n)) (T1 (orcOf_ok (ok48 n))))) (T1 (okc (T1 (T1 (qo14 X n))) trivial)) trivial
abbrev P28 : List SV := [V3, V0]
abbrev R28 : RV := .many [V4, V0]
theorem ok28 (n : Nat) : FO 28 P28 R28 (F.expr_Cut n) := fnOK_of WOf.st (cx28_ok _ n) (d := 8) fun _ => by kernel_rfl
noncomputable def o28 (n : Nat) := oc 28 P28 R28 (F.expr_Cut n)
def qh15 : Shape := ⟨[(0, V4), (1, V0), (2, V0), (10, .bool), (12, .bool)], [], [], [], [], 0, 0, 0⟩
def qe15_r : Shape := ⟨[(6, (.sl Y6 (.own 0))), (7, V0), (8, V0)], [], [true], [], [], 0, 0, 0⟩
def qe15_n : Shape := ⟨[(0, V4), (1, V0), (2, V0)], [], [], [], [], 0, 0, 0⟩
noncomputable def ql15 (X : Type) (n : Nat) : CutI X := mkCi 8 0 0 0 qh15 [qe15_n] [] [qe15_r] fun ks => F.trans_Metrics.C3 n (xr qe15_r ks) (xn qe15_n ks)
def qh16 : Shape := ⟨[(2, V0), (15, (.sl Y6 (.own 0))), (46, V4), (47, V0), (48, V0)], [], [true], [], [], 0, 0, 0⟩
def qe16_0 : Shape := ⟨[(15, (.sl Y6 (.own 0)))], [], [true], [], [], 0, 0, 0⟩
def qe16_r : Shape := ⟨[(6, (.sl Y6 (.own 0))), (7, V0), (8, V0)], [], [true], [], [], 0, 0, 0⟩
noncomputable def ql16 (X : Type) (n : Nat) : LoopI X := mkLi 8 0 0 0 qh16 [(0, qe16_0)] [qe16_r] n fun m ks => F.trans_Metrics.L10 n (xe qe16_0 ks 0) (xr qe16_r ks) m
def qh17 : Shape := ⟨[(0, V4), (1, V0), (2, V0)], [], [], [], [], 0, 0, 0⟩
def qe17_r : Shape := ⟨[(6, (.sl Y6 (.own 0))), (7, V0), (8, V0)], [], [true], [], [], 0, 0, 0⟩
noncomputable def ql17 (X : Type) (n : Nat) : CutI X := mkCi 8 0 0 0 qh17 [] [] [qe17_r] fun ks => F.trans_Metrics.C5 n (xr qe17_r ks)
def qh18 : Shape := ⟨[(0, V4), (1, V0), (2, V0), (10, .bool)], [], [], [], [], 0, 0, 0⟩
def qe18_r : Shape := ⟨[(6, (.sl Y6 (.own 0))), (7, V0), (8, V0)], [], [true], [], [], 0, 0, 0⟩
noncomputable def ql18 (X : Type) (n : Nat) : CutI X := mkCi 8 0 0 0 qh18 [] [] [qe18_r] fun ks => F.trans_Metrics.C2 n (xr qe18_r ks)
noncomputable def cx11 (X : Type) (n : Nat) : Cx X := mkCx tab.get [(11, Tryz.f11), (27, Tryz.f27), (43, Tryz.f43)] [o22 n, o28 n] [(11, 10, [ql16 X n])] [] [] [] [(11, 2, [ql18 X n]), (11, 3, [ql15 X n]), (11, 5, [ql17 X n])]
theorem qo15 (X : Type) (n : Nat) : CO (cx11 X n) 11 Tryz.f11 3 (ql15 X n) := fun _ _ => by kernel_rfl
theorem qo17 (X : Type) (n : Nat) : CO (cx11 X n) 11 Tryz.f11 2 (ql17 X n) := fun _ _ => by kernel_rfl
theorem qo18 (X : Type) (n : Nat) : CO (cx11 X n) 11 Tryz.f11 1 (ql18 X n) := fun _ _ => by kernel_rfl
theorem qo16 (X : Type) (n : Nat) : LO (cx11 X n) 11 Tryz.f11 0 (ql16 X n) := lok
theorem cx11_ok (X : Type) (n : Nat) : CxOK Tryz.prog SW (cx11 X n) := mx (J (J Tryz.func11 (by decide)) (J (J Tryz.func27 (by decide)) (T1 (J Tryz.func43 (by decide))))) (J (orcOf_ok (ok22 n)) (T1 (orcOf_ok (ok28 n)))) (J (okk (J trivial (J (T1 (qo18 X n)) (J (T1 (qo17 X n)) (J (T1 (qo15 X n)) (J trivial (J trivial (J trivial (J trivial (J trivial (J trivial (J trivial (J trivial (J trivial (J trivial (J trivial (J trivial (J trivial (J trivial (J trivial (J trivial (J trivial (J trivial (J trivial (J trivial (T1 trivial))))))))))))))))))))))))) (T1 (T1 (qo16 X n))) trivial) (J (okc trivial trivial) (T1 (okc trivial trivial)))) trivial
abbrev P11 : List SV := [V4, V0, V0]
abbrev R11 : RV := .many [V4, V0, V0]
theorem ok11 (n : Nat) : FO 11 P11 R11 (F.trans_Metrics n) := fnOK_of WOf.st (cx11_ok _ n) (d := 8) fun _ => by kernel_rfl
noncomputable def o11 (n : Nat) := oc 11 P11 R11 (F.trans_Metrics n)
abbrev P45 : List SV := [V11]
abbrev R45 : RV := .many [V4, V6]
theorem ok45 (n : Nat) : FO 45 P45 R45 (F.frame_Decode n) := fun x y hy => by cases hy
noncomputable def o45 (n : Nat) := oc 45 P45 R45 (F.frame_Decode n)
noncomputable def cx268 (X : Type) (n : Nat) : Cx X := mkCx tab.get [(268, Tryz.f268)] [] [] [] [] []
theorem cx268_ok (X : Type) (n : Nat) : CxOK Tryz.prog SW (cx268 X n) := mx (T1 (J Tryz.func268 (by decide))) trivial (T1 (okc trivial trivial)) trivial
abbrev P268 : List SV := [.str, .str]
abbrev R268 : RV := .one .bool
theorem ok268 (n : Nat) : FO 268 P268 R268 (F.stringslite_HasSuffix n) := fnOK_of WOf.st (cx268_ok _ n) (d := 8) fun _ => by kernel_rfl
noncomputable def o268 (n : Nat) := oc 268 P268 R268 (F.stringslite_HasSuffix n)
noncomputable def cx190 (X : Type) (n : Nat) : Cx X := mkCx tab.get [(190, Tryz.f190)] [o268 n] [] [] [] []
theorem cx190_ok (X : Type) (n : Nat) : CxOK Tryz.prog SW (cx190 X n) := mx (T1 (J Tryz.func190 (by decide))) (T1 (orcOf_ok (ok268 n))) (T1 (okc trivial trivial)) trivial
abbrev P190 : List SV := [.str, .str]
abbrev R190 : RV := .many [.str, .bool]
theorem ok190 (n : Nat) : FO 190 P190 R190 (F.stringslite_CutSuffix n) := fnOK_of WOf.st (cx190_ok _ n) (d := 8) fun _ => by kernel_rfl
noncomputable def o190 (n : Nat) := oc 190 P190 R190 (F.stringslite_CutSuffix n)
noncomputable def cx121 (X : Type) (n : Nat) : Cx X := mkCx tab.get [(121, Tryz.f121)] [o190 n] [] [] [] []
theorem cx121_ok (X : Type) (n : Nat) : CxOK Tryz.prog SW (cx121 X n) := mx (T1 (J Tryz.func121 (by decide))) (T1 (orcOf_ok (ok190 n))) (T1 (okc trivial trivial)) trivial
abbrev P121 : List SV := [.str, .str]
abbrev R121 : RV := .many [.str, .bool]
theorem ok121 (n : Nat) : FO 121 P121 R121 (F.strings_CutSuffix n) := fnOK_of WOf.st (cx121_ok _ n) (d := 8) fun _ => by kernel_rfl
noncomputable def o121 (n : Nat) := oc 121 P121 R121 (F.strings_CutSuffix n)
abbrev P330 : List SV := [.str, .str]
abbrev R330 : RV := .one V0
theorem ok330 (n : Nat) : FO 330 P330 R330 (O.index1 n) := index1_ok (enters Tryz.func330 (by kernel_rfl) (by decide)) Tryz.stringslite_Index_one n
noncomputable def o330 (n : Nat) := oc 330 P330 R330 (O.index1 n)
noncomputable def cx295 (X : Type) (n : Nat) : Cx X := mkCx tab.get [(295, Tryz.f295)] [o330 n] [] [] [] []
theorem cx295_ok (X : Type) (n : Nat) : CxOK Tryz.prog SW (cx295 X n) := mx (T1 (J Tryz.func295 (by decide))) (T1 (orcOf_ok (ok330 n))) (T1 (okc trivial trivial)) trivial
abbrev P295 : List SV := [.str, .str]
abbrev R295 : RV := .many [.str, .str, .bool]
theorem ok295 (n : Nat) : FO 295 P295 R295 (F.stringslite_Cut n) := fnOK_of WOf.st (cx295_ok _ n) (d := 8) fun _ => by kernel_rfl
noncomputable def o295 (n : Nat) := oc 295 P295 R295 (F.stringslite_Cut n)
noncomputable def cx249 (X : Type) (n : Nat) : Cx X := mkCx tab.get [(249, Tryz.f249)] [o295 n] [] [] [] []
theorem cx249_ok (X : Type) (n : Nat) : CxOK Tryz.prog SW (cx249 X n) := mx (T1 (J Tryz.func249 (by decide))) (T1 (orcOf_ok (ok295 n))) (T1 (okc trivial trivial)) trivial
abbrev P249 : List SV := [.str, .str]
abbrev R249 : RV := .many [.str, .str, .bool]
theorem ok249 (n : Nat) : FO 249 P249 R249 (F.strings_Cut n) := fnOK_of WOf.st (cx249_ok _ n) (d := 8) fun _ => by kernel_rfl
noncomputable def o249 (n : Nat) := oc 249 P249 R249 (F.strings_Cut n)
noncomputable def cx250 (X : Type) (n : Nat) : Cx X := mkCx tab.get [(250, Tryz.f250)] [] [] [] [] []
theorem cx250_ok (X : Type) (n : Nat) : CxOK Tryz.prog SW (cx250 X n) := mx (T1 (J Tryz.func250 (by decide))) trivial (T1 (okc trivial trivial)) trivial
abbrev P250 : List SV := [V0, V0]
abbrev R250 : RV := .many [V3, V6]
theorem ok250 (n : Nat) : FO 250 P250 R250 (F.statsd_fault n) := fnOK_of WOf.st (cx250_ok _ n) (d := 8) fun _ => by kernel_rfl
noncomputable def o250 (n : Nat) := oc 250 P250 R250 (F.statsd_fault n)
abbrev P294 : List SV := [.str, .str]
abbrev R294 : RV := .one .str
theorem ok294 (n : Nat) : FO 294 P294 R294 (O.trimR n) := trimR_ok (enters Tryz.func294 (by kernel_rfl) (by decide)) Tryz.strings_TrimRight_one n
noncomputable def o294 (n : Nat) := oc 294 P294 R294 (O.trimR n)
noncomputable def cx299 (X : Type) (n : Nat) : Cx X := mkCx tab.get [(299, Tryz.f299)] [] [] [] [] []
theorem cx299_ok (X : Type) (n : Nat) : CxOK Tryz.prog SW (cx299 X n) := mx (T1 (J Tryz.func299 (by decide))) trivial (T1 (okc trivial trivial)) trivial
abbrev P299 : List SV := [.str, .str]
abbrev R299 : RV := .one .bool
theorem ok299 (n : Nat) : FO 299 P299 R299 (F.stringslite_HasPrefix n) := fnOK_of WOf.st (cx299_ok _ n) (d := 8) fun _ => by kernel_rfl
noncomputable def o299 (n : Nat) := oc 299 P299 R299 (F.stringslite_HasPrefix n)
noncomputable def cx253 (X : Type) (n : Nat) : Cx X := mkCx tab.get [(253, Tryz.f253)] [o299 n] [] [] [] []
theorem cx253_ok (X : Type) (n : Nat) : CxOK Tryz.prog SW (cx253 X n) := mx (T1 (J Tryz.func253 (by decide))) (T1 (orcOf_ok (ok299 n))) (T1 (okc trivial trivial)) trivial
abbrev P253 : List SV := [.str, .str]
abbrev R253 : RV := .one .bool
theorem ok253 (n : Nat) : FO 253 P253 R253 (F.strings_HasPrefix n) := fnOK_of WOf.st (cx253_ok _ n) (d := 8) fun _ => by kernel_rfl
noncomputable def o253 (n : Nat) := oc 253 P253 R253 (F.strings_HasPrefix n)
def qh19 : Shape := ⟨[(0, (.const (.ref 2 0))), (1, (.const (.ref 0 0))), (3, V0)], [[.str], [V0, V0], [V0]], [], [], [], 3, 0, 0⟩
def qe19_0 : Shape := ⟨[(0, (.const (.ref 2 0))), (3, V0)], [[.str], [V0, V0], [V0]], [], [], [], 3, 0, 0⟩
noncomputable def ql19 (X : Type) (n : Nat) : LoopI X := mkLi 7 3 0 0 qh19 [(0, qe19_0)] [] n fun m ks => F.dec_look.L2_dec_look_1 n (xe qe19_0 ks 0) m
noncomputable def cx296 (X : Type) (n : Nat) : Cx X := mkCx tab.get [(296, Tryz.f296), (331, Tryz.f331)] [o253 n] [(331, 2, [ql19 X n])] [] [] []
theorem qo19 (X : Type) (n : Nat) : LO (cx296 X n) 331 Tryz.f331 0 (ql19 X n) := lok
theorem cx296_ok (X : Type) (n : Nat) : CxOK Tryz.prog SW (cx296 X n) := mx (J (J Tryz.func296 (by decide)) (T1 (J Tryz.func331 (by decide)))) (T1 (orcOf_ok (ok253 n))) (J (okc trivial trivial) (T1 (okc (T1 (T1 (qo19 X n))) trivial))) trivial
abbrev P296 : List SV := [.str]
abbrev R296 : RV := .one V6
theorem ok296 (n : Nat) : FO 296 P296 R296 (F.dec_look n) := fnOK_of WOf.st (cx296_ok _ n) (d := 8) fun _ => by kernel_rfl
noncomputable def o296 (n : Nat) := oc 296 P296 R296 (F.dec_look n)
noncomputable def cx332 (X : Type) (n : Nat) : Cx X := mkCx tab.get [(332, Tryz.f332)] [o299 n] [] [] [] []
theorem cx332_ok (X : Type) (n : Nat) : CxOK Tryz.prog SW (cx332 X n) := mx (T1 (J Tryz.func332 (by decide))) (T1 (orcOf_ok (ok299 n))) (T1 (okc trivial trivial)) trivial
abbrev P332 : List SV := [.str, .str]
abbrev R332 : RV := .many [.str, .bool]
theorem ok332 (n : Nat) : FO 332 P332 R332 (F.stringslite_CutPrefix n) := fnOK_of WOf.st (cx332_ok _ n) (d := 8) fun _ => by kernel_rfl
noncomputable def o332 (n : Nat) := oc 332 P332 R332 (F.stringslite_CutPrefix n)
noncomputable def cx297 (X : Type) (n : Nat) : Cx X := mkCx tab.get [(297, Tryz.f297)] [o332 n] [] [] [] []
theorem cx297_ok (X : Type) (n : Nat) : CxOK Tryz.prog SW (cx297 X n) := mx (T1 (J Tryz.func297 (by decide))) (T1 (orcOf_ok (ok332 n))) (T1 (okc trivial trivial)) trivial
abbrev P297 : List SV := [.str, .str]
abbrev R297 : RV := .many [.str, .bool]
theorem ok297 (n : Nat) : FO 297 P297 R297 (F.strings_CutPrefix n) := fnOK_of WOf.st (cx297_ok _ n) (d := 8) fun _ => by kernel_rfl
noncomputable def o297 (n : Nat) := oc 297 P297 R297 (F.strings_CutPrefix n)
abbrev P298 : List SV := [.str, .str]
abbrev R298 : RV := .one .str
theorem ok298 (n : Nat) : FO 298 P298 R298 (O.trimL n) := trimL_ok (enters Tryz.func298 (by kernel_rfl) (by decide)) Tryz.strings_TrimLeft_one n
noncomputable def o298 (n : Nat) := oc 298 P298 R298 (O.trimL n)
def qh20 : Shape := ⟨[(2, (.const (.ref 0 0))), (3, (.const (.ref 1 0))), (10, .str), (11, (.const (.ref 3 0))), (66, V0), (67, V0)], [[.bool, V7, V0], [V0, V0], [V0, V0], [.bool, V7, V0]], [], [], [], 4, 0, 0⟩
def qe20_0 : Shape := ⟨[(2, (.const (.ref 0 0))), (3, (.const (.ref 1 0))), (11, (.const (.ref 3 0)))], [[.bool, V7, V0], [V0, V0], [V0, V0], [.bool, V7, V0]], [], [], [], 4, 0, 0⟩
noncomputable def ql20 (X : Type) (n : Nat) : LoopI X := mkLi 8 0 0 0 qh20 [(0, qe20_0)] [] n fun m ks => F.dec_Parse.L14 n (xe qe20_0 ks 0) m
noncomputable def cx251 (X : Type) (n : Nat) : Cx X := mkCx tab.get [(251, Tryz.f251)] [o72 n, o112 n, o249 n, o294 n, o296 n, o297 n, o298 n] [(251, 14, [ql20 X n])] [] [(251, 3, [(1, 2)])] []
theorem qo20 (X : Type) (n : Nat) : LO (cx251 X n) 251 Tryz.f251 0 (ql20 X n) := lok
theorem cx251_ok (X : Type) (n : Nat) : CxOK Tryz.prog SW (cx251 X n) := mx (T1 (J Tryz.func251 (by decide))) (J (orcOf_ok (ok72 n)) (J (orcOf_ok (ok112 n)) (J (orcOf_ok (ok249 n)) (J (orcOf_ok (ok294 n)) (J (orcOf_ok (ok296 n)) (J (orcOf_ok (ok297 n)) (T1 (orcOf_ok (ok298 n))))))))) (T1 (okc (T1 (T1 (qo20 X n))) trivial)) trivial
abbrev P251 : List SV := [.str]
abbrev R251 : RV := .many [V8, V6]
theorem ok251 (n : Nat) : FO 251 P251 R251 (F.dec_Parse n) := fnOK_of WOf.st (cx251_ok _ n) (d := 8) fun _ => by kernel_rfl
noncomputable def o251 (n : Nat) := oc 251 P251 R251 (F.dec_Parse n)
abbrev P245 : List SV := [V0]
abbrev R245 : RV := .many [.str, V0]
theorem ok245 (n : Nat) : FO 245 P245 R245 (O.word n) := word_ok (enters Tryz.func245 (by kernel_rfl) (by decide)) Tryz.statsd_Word n
noncomputable def o245 (n : Nat) := oc 245 P245 R245 (O.word n)
def qh21 : Shape := ⟨[(0, .str), (4, V0)], [], [], [], [], 0, 0, 0⟩
def qe21_0 : Shape := ⟨[], [], [], [], [], 0, 0, 0⟩
def qe21_r : Shape := ⟨[(2, V0), (3, V0)], [], [], [], [], 0, 0, 0⟩
noncomputable def ql21 (X : Type) (n : Nat) : LoopI X := mkLi 8 0 0 0 qh21 [(0, qe21_0)] [qe21_r] n fun m ks => F.statsd_Kind.L2 n (fun _ => xe qe21_0 ks 0) (xr qe21_r ks) m
noncomputable def cx252 (X : Type) (n : Nat) : Cx X := mkCx tab.get [(252, Tryz.f252)] [o245 n] [(252, 2, [ql21 X n])] [] [] []
theorem qo21 (X : Type) (n : Nat) : LO (cx252 X n) 252 Tryz.f252 0 (ql21 X n) := lok
theorem cx252_ok (X : Type) (n : Nat) : CxOK Tryz.prog SW (cx252 X n) := mx (T1 (J Tryz.func252 (by decide))) (T1 (orcOf_ok (ok245 n))) (T1 (okc (T1 (T1 (qo21 X n))) trivial)) trivial
abbrev P252 : List SV := [.str]
abbrev R252 : RV := .many [V0, V0]
theorem ok252 (n : Nat) : FO 252 P252 R252 (F.statsd_Kind n) := fnOK_of WOf.st (cx252_ok _ n) (d := 8) fun _ => by kernel_rfl
noncomputable def o252 (n : Nat) := oc 252 P252 R252 (F.statsd_Kind n)
noncomputable def cx300 (X : Type) (n : Nat) : Cx X := mkCx tab.get [(300, Tryz.f300)] [] [] [] [] []
theorem cx300_ok (X : Type) (n : Nat) : CxOK Tryz.prog SW (cx300 X n) := mx (T1 (J Tryz.func300 (by decide))) trivial (T1 (okc trivial trivial)) trivial
abbrev P300 : List SV := [V0, V0]
abbrev R300 : RV := .many [V0, V6]
theorem ok300 (n : Nat) : FO 300 P300 R300 (F.num_fault n) := fnOK_of WOf.st (cx300_ok _ n) (d := 8) fun _ => by kernel_rfl
noncomputable def o300 (n : Nat) := oc 300 P300 R300 (F.num_fault n)
def qh22 : Shape := ⟨[(0, .str), (3, (.const (.ref 0 0))), (4, (.const (.ref 1 0))), (16, V12), (17, V0)], [[V0, V0], [V0, V0]], [], [], [], 2, 0, 0⟩
def qe22_0 : Shape := ⟨[(0, .str), (3, (.const (.ref 0 0))), (4, (.const (.ref 1 0)))], [[V0, V0], [V0, V0]], [], [], [], 2, 0, 0⟩
noncomputable def ql22 (X : Type) (n : Nat) : LoopI X := mkLi 8 0 0 0 qh22 [(0, qe22_0)] [] n fun m ks => F.num_Rate.L5 n (xe qe22_0 ks 0) m
def qh23 : Shape := ⟨[(3, (.const (.ref 0 0))), (7, .str), (9, (.const (.ref 3 0))), (10, (.const (.fn 301 [] [(.ref 3 0)]))), (81, V0)], [[V0, V0], [V0, V0], [V0, V0], [V0]], [], [], [], 4, 0, 0⟩
def qe23_3 : Shape := ⟨[(3, (.const (.ref 0 0))), (9, (.const (.ref 3 0)))], [[V0, V0], [V0, V0], [V0, V0], [V0]], [], [], [], 4, 0, 0⟩
noncomputable def ql23 (X : Type) (n : Nat) : LoopI X := mkLi 8 0 0 0 qh23 [(3, qe23_3)] [] n fun m ks => F.num_Rate.L23 n (xe qe23_3 ks 3) m
noncomputable def cx254 (X : Type) (n : Nat) : Cx X := mkCx tab.get [(254, Tryz.f254), (301, Tryz.f301)] [o168 n, o300 n] [(254, 5, [ql22 X n]), (254, 23, [ql23 X n])] [] [] []
theorem qo22 (X : Type) (n : Nat) : LO (cx254 X n) 254 Tryz.f254 0 (ql22 X n) := lok
theorem qo23 (X : Type) (n : Nat) : LO (cx254 X n) 254 Tryz.f254 1 (ql23 X n) := lok
theorem cx254_ok (X : Type) (n : Nat) : CxOK Tryz.prog SW (cx254 X n) := mx (J (J Tryz.func254 (by decide)) (T1 (J Tryz.func301 (by decide)))) (J (orcOf_ok (ok168 n)) (T1 (orcOf_ok (ok300 n)))) (J (okc (J (T1 (qo22 X n)) (T1 (T1 (qo23 X n)))) trivial) (T1 (okc trivial trivial))) trivial
abbrev P254 : List SV := [.str]
abbrev R254 : RV := .many [V0, V6]
theorem ok254 (n : Nat) : FO 254 P254 R254 (F.num_Rate n) := fnOK_of WOf.st (cx254_ok _ n) (d := 8) fun _ => by kernel_rfl
noncomputable def o254 (n : Nat) := oc 254 P254 R254 (F.num_Rate n)
def qh24 : Shape := ⟨[(2, (.const (.ref 1 0))), (3, (.const (.ref 2 0))), (4, (.const (.ref 3 0))), (6, (.const (.ref 4 0))), (9, .bool), (19, V0), (141, .bool)], [[.str], [.str, V0, (.sl Y2 (.own 0)), V0, (.sl Y3 (.own 1)), V0], [V0, V0], [V0], [.str, V0, (.sl Y2 (.own 2)), V0, (.sl Y3 (.own 3)), V0]], [true, true, true, true], [], [], 5, 0, 0⟩
def qe24_r : Shape := ⟨[(2, (.const (.ref 1 0))), (3, (.const (.ref 2 0)))], [[.str], [.str, V0, V1, V0, V2, V0], [V0, V0]], [], [], [], 3, 0, 0⟩
def qe24_n : Shape := ⟨[(2, (.const (.ref 1 0))), (3, (.const (.ref 2 0))), (4, (.const (.ref 3 0))), (6, (.const (.ref 4 0))), (9, .bool)], [[.str], [.str, V0, (.sl Y2 (.own 0)), V0, (.sl Y3 (.own 1)), V0], [V0, V0], [V0], [.str, V0, (.sl Y2 (.own 2)), V0, (.sl Y3 (.own 3)), V0]], [true, true, true, true], [], [], 5, 0, 0⟩
noncomputable def ql24 (X : Type) (n : Nat) : CutI X := mkCi 8 0 0 0 qh24 [qe24_n] [] [qe24_r] fun ks => F.statsd_Parse.C30 n (xr qe24_r ks) (xn qe24_n ks)
def qh25 : Shape := ⟨[(2, (.const (.ref 1 0))), (3, (.const (.ref 2 0))), (4, (.const (.ref 3 0))), (6, (.const (.ref 4 0))), (9, .bool)], [[.str], [.str, V0, (.sl Y2 (.own 0)), V0, (.sl Y3 (.own 1)), V0], [V0, V0], [V0], [.str, V0, (.sl Y2 (.own 2)), V0, (.sl Y3 (.own 3)), V0]], [true, true, true, true], [], [], 5, 0, 0⟩
def qe25_r : Shape := ⟨[(2, (.const (.ref 1 0))), (3, (.const (.ref 2 0)))], [[.str], [.str, V0, V1, V0, V2, V0], [V0, V0]], [], [], [], 3, 0, 0⟩
noncomputable def ql25 (X : Type) (n : Nat) : CutI X := mkCi 8 0 0 0 qh25 [] [] [qe25_r] fun ks => F.statsd_Parse.C31 n (xr qe25_r ks)
def qh26 : Shape := ⟨[(2, (.const (.ref 1 0))), (3, (.const (.ref 2 0))), (4, (.const (.ref 3 0))), (6, (.const (.ref 4 0))), (9, .bool), (13, (.const (.ref 6 0))), (16, V0), (18, .str), (19, V0)], [[.str], [.str, V0, (.sl Y2 (.own 0)), V0, (.sl Y3 (.own 1)), V0], [V0, V0], [V0], [.str, V0, (.sl Y2 (.own 2)), V0, (.sl Y3 (.own 3)), V0], [.bool, V7, V0], [V0, V0]], [true, true, true, true], [], [], 7, 0, 0⟩
def qe26_r : Shape := ⟨[(2, (.const (.ref 1 0))), (3, (.const (.ref 2 0)))], [[.str], [.str, V0, V1, V0, V2, V0], [V0, V0]], [], [], [], 3, 0, 0⟩
noncomputable def ql26 (X : Type) (n : Nat) : CutI X := mkCi 8 0 0 0 qh26 [] [] [qe26_r] fun ks => F.statsd_Parse.C28 n (xr qe26_r ks)
def qh27 : Shape := ⟨[(1, (.const (.ref 0 0))), (2, (.const (.ref 1 0))), (3, (.const (.ref 2 0))), (4, (.const (.ref 3 0))), (5, (.const (.fn 248 [] [(.ref 3 0), (.ref 0 0)]))), (6, (.const (.ref 4 0))), (7, .str), (9, .bool), (12, (.const (.ref 5 0))), (13, (.const (.ref 6 0))), (16, V0)], [[.str], [.str, V0, (.sl Y2 (.own 0)), V0, (.sl Y3 (.own 1)), V0], [V0, V0], [V0], [.str, V0, (.sl Y2 (.own 2)), V0, (.sl Y3 (.own 3)), V0], [.bool, V7, V0], [V0, V0]], [true, true, true, true], [], [], 7, 0, 0⟩
def qe27_r : Shape := ⟨[(2, (.const (.ref 1 0))), (3, (.const (.ref 2 0)))], [[.str], [.str, V0, V1, V0, V2, V0], [V0, V0]], [], [], [], 3, 0, 0⟩
noncomputable def ql27 (X : Type) (n : Nat) : CutI X := mkCi 8 0 0 0 qh27 [] [] [qe27_r] fun ks => F.statsd_Parse.C21 n (xr qe27_r ks)
def qh28 : Shape := ⟨[(1, (.const (.ref 0 0))), (2, (.const (.ref 1 0))), (3, (.const (.ref 2 0))), (4, (.const (.ref 3 0))), (5, (.const (.fn 248 [] [(.ref 3 0), (.ref 0 0)]))), (6, (.const (.ref 4 0))), (7, .str), (9, .bool), (10, .str), (11, V0), (12, (.const (.ref 5 0))), (13, (.const (.ref 6 0))), (14, .str), (15, V0)], [[.str], [.str, V0, (.sl Y2 (.own 0)), V0, (.sl Y3 (.own 1)), V0], [V0, V0], [V0], [.str, V0, (.sl Y2 (.own 2)), V0, (.sl Y3 (.own 3)), V0], [.bool, V7, V0], [V0, V0]], [true, true, true, true], [], [], 7, 0, 0⟩
def qe28_r : Shape := ⟨[(2, (.const (.ref 1 0))), (3, (.const (.ref 2 0)))], [[.str], [.str, V0, V1, V0, V2, V0], [V0, V0]], [], [], [], 3, 0, 0⟩
noncomputable def ql28 (X : Type) (n : Nat) : CutI X := mkCi 8 0 0 0 qh28 [] [] [qe28_r] fun ks => F.statsd_Parse.C16 n (xr qe28_r ks)
def qh29 : Shape := ⟨[(1, (.const (.ref 0 0))), (2, (.const (.ref 1 0))), (3, (.const (.ref 2 0))), (4, (.const (.ref 3 0))), (5, (.const (.fn 248 [] [(.ref 3 0), (.ref 0 0)]))), (6, (.const (.ref 4 0))), (7, .str), (9, .bool), (10, .str), (11, V0)], [[.str], [.str, V0, (.sl Y2 (.own 0)), V0, (.sl Y3 (.own 1)), V0], [V0, V0], [V0], [.str, V0, (.sl Y2 (.own 2)), V0, (.sl Y3 (.own 3)), V0]], [true, true, true, true], [], [], 5, 0, 0⟩
def qe29_r : Shape := ⟨[(2, (.const (.ref 1 0))), (3, (.const (.ref 2 0)))], [[.str], [.str, V0, V1, V0, V2, V0], [V0, V0]], [], [], [], 3, 0, 0⟩
noncomputable def ql29 (X : Type) (n : Nat) : CutI X := mkCi 8 0 0 0 qh29 [] [] [qe29_r] fun ks => F.statsd_Parse.C10 n (xr qe29_r ks)
def qh30 : Shape := ⟨[(1, (.const (.ref 0 0))), (2, (.const (.ref 1 0))), (3, (.const (.ref 2 0))), (4, (.const (.ref 3 0))), (5, (.const (.fn 248 [] [(.ref 3 0), (.ref 0 0)]))), (6, (.const (.ref 4 0))), (7, .str), (9, .bool)], [[.str], [.str, V0, (.sl Y2 (.own 0)), V0, (.sl Y3 (.own 1)), V0], [V0, V0], [V0], [.str, V0, (.sl Y2 (.own 2)), V0, (.sl Y3 (.own 3)), V0]], [true, true, true, true], [], [], 5, 0, 0⟩
def qe30_r : Shape := ⟨[(2, (.const (.ref 1 0))), (3, (.const (.ref 2 0)))], [[.str], [.str, V0, V1, V0, V2, V0], [V0, V0]], [], [], [], 3, 0, 0⟩
noncomputable def ql30 (X : Type) (n : Nat) : CutI X := mkCi 8 0 0 0 qh30 [] [] [qe30_r] fun ks => F.statsd_Parse.C5 n (xr qe30_r ks)
noncomputable def cx183 (X : Type) (n : Nat) : Cx X := mkCx tab.get [(183, Tryz.f183), (248, Tryz.f248)] [o168 n, o249 n, o250 n, o251 n, o252 n, o253 n, o254 n] [] [] [(183, 21, [(2, 5), (2, 7)])] [] [(183, 5, [ql30 X n]), (183, 10, [ql29 X n]), (183, 16, [ql28 X n]), (183, 21, [ql27 X n]), (183, 28, [ql26 X n]), (183, 30, [ql24 X n]), (183, 31, [ql25 X n])]
theorem qo24 (X : Type) (n : Nat) : CO (cx183 X n) 183 Tryz.f183 37 (ql24 X n) := fun _ _ => by kernel_rfl
theorem qo25 (X : Type) (n : Nat) : CO (cx183 X n) 183 Tryz.f183 36 (ql25 X n) := fun _ _ => by kernel_rfl
theorem qo26 (X : Type) (n : Nat) : CO (cx183 X n) 183 Tryz.f183 34 (ql26 X n) := fun _ _ => by kernel_rfl
theorem qo27 (X : Type) (n : Nat) : CO (cx183 X n) 183 Tryz.f183 21 (ql27 X n) := fun _ _ => by kernel_rfl
theorem qo28 (X : Type) (n : Nat) : CO (cx183 X n) 183 Tryz.f183 19 (ql28 X n) := fun _ _ => by kernel_rfl
theorem qo29 (X : Type) (n : Nat) : CO (cx183 X n) 183 Tryz.f183 11 (ql29 X n) := fun _ _ => by kernel_rfl
theorem qo30 (X : Type) (n : Nat) : CO (cx183 X n) 183 Tryz.f183 4 (ql30 X n) := fun _ _ => by kernel_rfl
theorem cx183_ok (X : Type) (n : Nat) : CxOK Tryz.prog SW (cx183 X n) := mx (J (J Tryz.func183 (by decide)) (T1 (J Tryz.func248 (by decide)))) (J (orcOf_ok (ok168 n)) (J (orcOf_ok (ok249 n)) (J (orcOf_ok (ok250 n)) (J (orcOf_ok (ok251 n)) (J (orcOf_ok (ok252 n)) (J (orcOf_ok (ok253 n)) (T1 (orcOf_ok (ok254 n))))))))) (J (okk (J trivial (J trivial (J trivial (J trivial (J (T1 (qo30 X n)) (J trivial (J trivial (J trivial (J trivial (J trivial (J trivial (J (T1 (qo29 X n)) (J trivial (J trivial (J trivial (J trivial (J trivial (J trivial (J trivial (J (T1 (qo28 X n)) (J trivial (J (T1 (qo27 X n)) (J trivial (J trivial (J trivial (J trivial (J trivial (J trivial (J trivial (J trivial (J trivial (J trivial (J trivial (J trivial (J (T1 (qo26 X n)) (J trivial (J (T1 (qo25 X n)) (J (T1 (qo24 X n)) (J trivial (J trivial (J trivial (J trivial (T1 trivial))))))))))))))))))))))))))))))))))))))))))) trivial trivial) (T1 (okc trivial trivial))) trivial
abbrev P183 : List SV := [.str]
abbrev R183 : RV := .many [V3, V6]
theorem ok183 (n : Nat) : FO 183 P183 R183 (F.statsd_Parse n) := fnOK_of WOf.st (cx183_ok _ n) (d := 8) fun _ => by kernel_rfl
noncomputable def o183 (n : Nat) := oc 183 P183 R183 (F.statsd_Parse n)
abbrev P185 : List SV := [.str]
abbrev R185 : RV := .many [V3, V6]
theorem ok185 (n : Nat) : FO 185 P185 R185 (F.dog_Parse n) := fun x y hy => by cases hy
noncomputable def o185 (n : Nat) := oc 185 P185 R185 (F.dog_Parse n)
abbrev P187 : List SV := [.str]
abbrev R187 : RV := .many [V3, V6]
theorem ok187 (n : Nat) : FO 187 P187 R187 (F.graphite_Parse n) := fun x y hy => by cases hy
noncomputable def o187 (n : Nat) := oc 187 P187 R187 (F.graphite_Parse n)
noncomputable def cx122 (X : Type) (n : Nat) : Cx X := mkCx tab.get [(119, Tryz.f119), (122, Tryz.f122)] [o183 n, o185 n, o187 n] [] [] [] []
theorem cx122_ok (X : Type) (n : Nat) : CxOK Tryz.prog SW (cx122 X n) := mx (J (J Tryz.func119 (by decide)) (T1 (J Tryz.func122 (by decide)))) (J (orcOf_ok (ok183 n)) (J (orcOf_ok (ok185 n)) (T1 (orcOf_ok (ok187 n))))) (J (okc trivial trivial) (T1 (okc trivial trivial))) trivial
abbrev P122 : List SV := [.str, V0]
abbrev R122 : RV := .many [V3, V6]
theorem ok122 (n : Nat) : FO 122 P122 R122 (F.text_Parse n) := fnOK_of WOf.st (cx122_ok _ n) (d := 8) fun _ => by kernel_rfl
noncomputable def o122 (n : Nat) := oc 122 P122 R122 (F.text_Parse n)
abbrev P267 : List SV := [.str, V5]
abbrev R267 : RV := .one V0
theorem ok267 (n : Nat) : FO 267 P267 R267 (O.indexB n) := indexB_ok (enters Tryz.func267 (by kernel_rfl) (by decide)) Tryz.stringslite_IndexByte n
noncomputable def o267 (n : Nat) := oc 267 P267 R267 (O.indexB n)
noncomputable def cx189 (X : Type) (n : Nat) : Cx X := mkCx tab.get [(189, Tryz.f189)] [o267 n] [] [] [] []
theorem cx189_ok (X : Type) (n : Nat) : CxOK Tryz.prog SW (cx189 X n) := mx (T1 (J Tryz.func189 (by decide))) (T1 (orcOf_ok (ok267 n))) (T1 (okc trivial trivial)) trivial
abbrev P189 : List SV := [.str, V5]
abbrev R189 : RV := .one V0
theorem ok189 (n : Nat) : FO 189 P189 R189 (F.strings_IndexByte n) := fnOK_of WOf.st (cx189_ok _ n) (d := 8) fun _ => by kernel_rfl
noncomputable def o189 (n : Nat) := oc 189 P189 R189 (F.strings_IndexByte n)
def qh31 : Shape := ⟨[(0, (.const (.yield 0))), (1, (.const (.ref 7 0)))], [[V0], [(.sl Y6 (.own 0))], [V0, V0], [(.const (.fn 182 [] [])), (.const (.fn 183 [] []))], [(.const (.fn 182 [] [])), (.const (.fn 183 [] []))], [(.sl Y6 (.own 1))], [V0], [.str]], [true, true], [.ready], [(0, 77, 7, [(3, (.const (.ref 0 0))), (4, (.const (.ref 1 0))), (5, (.const (.ref 2 0))), (8, (.const (.ref 5 0))), (9, (.const (.ref 6 0)))])], 8, 0, 1⟩
def qe31_0 : Shape := ⟨[], [[V0], [(.sl Y6 (.own 0))], [V0, V0], [(.const (.fn 182 [] [])), (.const (.fn 183 [] []))], [(.const (.fn 182 [] [])), (.const (.fn 183 [] []))], [(.sl Y6 (.own 1))], [V0], [.str]], [true, true], [.ready], [], 8, 0, 1⟩
def qe31_r : Shape := ⟨[], [[V0], [(.sl Y6 (.own 0))], [V0, V0], [(.const (.fn 182 [] [])), (.const (.fn 183 [] []))], [(.const (.fn 182 [] [])), (.const (.fn 183 [] []))], [(.sl Y6 (.own 1))], [V0], [.str]], [true, true], [.done .ret], [], 8, 0, 1⟩
noncomputable def ql31 (X : Type) (n : Nat) : LoopI X := mkLi 7 8 0 1 qh31 [(0, qe31_0)] [qe31_r] n fun m ks => F.text_Decode.L0_strings_Lines_1 n (xe qe31_0 ks 0) (xr qe31_r ks) m
def qh32 : Shape := ⟨[(0, (.const (.yield 0))), (1, (.const (.ref 7 0)))], [[V0], [(.sl Y6 (.own 0))], [V0, V0], [(.const (.fn 184 [] [])), (.const (.fn 185 [] []))], [(.const (.fn 184 [] [])), (.const (.fn 185 [] []))], [(.sl Y6 (.own 1))], [V0], [.str]], [true, true], [.ready], [(0, 77, 7, [(3, (.const (.ref 0 0))), (4, (.const (.ref 1 0))), (5, (.const (.ref 2 0))), (8, (.const (.ref 5 0))), (9, (.const (.ref 6 0)))])], 8, 0, 1⟩
def qe32_0 : Shape := ⟨[], [[V0], [(.sl Y6 (.own 0))], [V0, V0], [(.const (.fn 184 [] [])), (.const (.fn 185 [] []))], [(.const (.fn 184 [] [])), (.const (.fn 185 [] []))], [(.sl Y6 (.own 1))], [V0], [.str]], [true, true], [.ready], [], 8, 0, 1⟩
def qe32_r : Shape := ⟨[], [[V0], [(.sl Y6 (.own 0))], [V0, V0], [(.const (.fn 184 [] [])), (.const (.fn 185 [] []))], [(.const (.fn 184 [] [])), (.const (.fn 185 [] []))], [(.sl Y6 (.own 1))], [V0], [.str]], [true, true], [.done .ret], [], 8, 0, 1⟩
noncomputable def ql32 (X : Type) (n : Nat) : LoopI X := mkLi 7 8 0 1 qh32 [(0, qe32_0)] [qe32_r] n fun m ks => F.text_Decode.L0_strings_Lines_1 n (xe qe32_0 ks 0) (xr qe32_r ks) m
def qh33 : Shape := ⟨[(0, (.const (.yield 0))), (1, (.const (.ref 7 0)))], [[V0], [(.sl Y6 (.own 0))], [V0, V0], [(.const (.fn 186 [] [])), (.const (.fn 187 [] []))], [(.const (.fn 186 [] [])), (.const (.fn 187 [] []))], [(.sl Y6 (.own 1))], [V0], [.str]], [true, true], [.ready], [(0, 77, 7, [(3, (.const (.ref 0 0))), (4, (.const (.ref 1 0))), (5, (.const (.ref 2 0))), (8, (.const (.ref 5 0))), (9, (.const (.ref 6 0)))])], 8, 0, 1⟩
def qe33_0 : Shape := ⟨[], [[V0], [(.sl Y6 (.own 0))], [V0, V0], [(.const (.fn 186 [] [])), (.const (.fn 187 [] []))], [(.const (.fn 186 [] [])), (.const (.fn 187 [] []))], [(.sl Y6 (.own 1))], [V0], [.str]], [true, true], [.ready], [], 8, 0, 1⟩
def qe33_r : Shape := ⟨[], [[V0], [(.sl Y6 (.own 0))], [V0, V0], [(.const (.fn 186 [] [])), (.const (.fn 187 [] []))], [(.const (.fn 186 [] [])), (.const (.fn 187 [] []))], [(.sl Y6 (.own 1))], [V0], [.str]], [true, true], [.done .ret], [], 8, 0, 1⟩
noncomputable def ql33 (X : Type) (n : Nat) : LoopI X := mkLi 7 8 0 1 qh33 [(0, qe33_0)] [qe33_r] n fun m ks => F.text_Decode.L0_strings_Lines_1 n (xe qe33_0 ks 0) (xr qe33_r ks) m
noncomputable def cx77 (X : Type) (n : Nat) : Cx X := mkCx tab.get [(77, Tryz.f77), (119, Tryz.f119), (120, Tryz.f120), (188, Tryz.f188)] [o121 n, o122 n, o189 n] [(188, 0, [ql31 X n, ql32 X n, ql33 X n])] [(77, 7, Tryz.f77, [3, 4, 5, 8, 9], 0)] [(77, 17, [(1, 7), (2, 7), (4, 7)])] []
theorem qo31 (X : Type) (n : Nat) : LO (cx77 X n) 188 Tryz.f188 0 (ql31 X n) := lok
theorem qo32 (X : Type) (n : Nat) : LO (cx77 X n) 188 Tryz.f188 0 (ql32 X n) := lok
theorem qo33 (X : Type) (n : Nat) : LO (cx77 X n) 188 Tryz.f188 0 (ql33 X n) := lok
theorem cx77_ok (X : Type) (n : Nat) : CxOK Tryz.prog SW (cx77 X n) := mx (J (J Tryz.func77 (by decide)) (J (J Tryz.func119 (by decide)) (J (J Tryz.func120 (by decide)) (T1 (J Tryz.func188 (by decide)))))) (J (orcOf_ok (ok121 n)) (J (orcOf_ok (ok122 n)) (T1 (orcOf_ok (ok189 n))))) (J (okc trivial (T1 (rfo (cx := cx77 X n) (g := 77) (i := 7) (lv := [3, 4, 5, 8, 9]) (show _ = some (Tryz.f77.ntmps, _, rfNo Tryz.f77 0) by kernel_rfl)))) (J (okc trivial trivial) (J (okc trivial trivial) (T1 (okc (T1 (J (qo31 X n) (J (qo32 X n) (T1 (qo33 X n))))) trivial))))) (T1 (J Tryz.func77 rfl))
abbrev P77 : List SV := [V11, V0]
abbrev R77 : RV := .many [V4, V6]
theorem ok77 (n : Nat) : FO 77 P77 R77 (F.text_Decode n) := fnOK_of WOf.st (cx77_ok _ n) (d := 8) fun _ => by kernel_rfl
noncomputable def o77 (n : Nat) := oc 77 P77 R77 (F.text_Decode n)
noncomputable def cx14 (X : Type) (n : Nat) : Cx X := mkCx tab.get [(14, Tryz.f14), (27, Tryz.f27), (43, Tryz.f43), (76, Tryz.f76)] [o45 n, o77 n] [] [] [] []
theorem cx14_ok (X : Type) (n : Nat) : CxOK Tryz.prog SW (cx14 X n) := mx (J (J Tryz.func14 (by decide)) (J (J Tryz.func27 (by decide)) (J (J Tryz.func43 (by decide)) (T1 (J Tryz.func76 (by decide)))))) (J (orcOf_ok (ok45 n)) (T1 (orcOf_ok (ok77 n)))) (J (okc trivial trivial) (J (okc trivial trivial) (J (okc trivial trivial) (T1 (okc trivial trivial))))) trivial
abbrev P14 : List SV := [V11, V0]
abbrev R14 : RV := .many [V4, V6]
theorem ok14 (n : Nat) : FO 14 P14 R14 (F.trans_Decode n) := fnOK_of WOf.st (cx14_ok _ n) (d := 8) fun _ => by kernel_rfl
noncomputable def o14 (n : Nat) := oc 14 P14 R14 (F.trans_Decode n)
noncomputable def cx117 (X : Type) (n : Nat) : Cx X := mkCx tab.get [(117, Tryz.f117)] [] [] [] [] []
theorem cx117_ok (X : Type) (n : Nat) : CxOK Tryz.prog SW (cx117 X n) := mx (T1 (J Tryz.func117 (by decide))) trivial (T1 (okc trivial trivial)) trivial
abbrev P117 : List SV := [V2]
abbrev R117 : RV := .one V2
theorem ok117 (n : Nat) : FO 117 P117 R117 (F.slices_Clip_api_Tag_api_Tag n) := fnOK_of WOf.st (cx117_ok _ n) (d := 8) fun _ => by kernel_rfl
noncomputable def o117 (n : Nat) := oc 117 P117 R117 (F.slices_Clip_api_Tag_api_Tag n)
def qh34 : Shape := ⟨[(3, (.ms 2 Y3)), (4, V0), (11, (.ms 2 Y3)), (12, V0), (13, V0)], [[(.row Y3)], [(.row Y3)], [(.row Y3)]], [], [], [], 3, 0, 0⟩
def qe34_0 : Shape := ⟨[(3, (.ms 2 Y3)), (4, V0)], [[(.row Y3)], [(.row Y3)], [(.row Y3)]], [], [], [], 3, 0, 0⟩
noncomputable def ql34 (X : Type) (n : Nat) : LoopI X := mkLi 8 0 0 0 qh34 [(0, qe34_0)] [] n fun m ks => F.tag_Normal.L5 n (xe qe34_0 ks 0) m
noncomputable def cx73 (X : Type) (n : Nat) : Cx X := mkCx tab.get [(73, Tryz.f73), (87, Tryz.f87)] [o117 n] [(73, 5, [ql34 X n])] [] [] [] [] [(54, Y3)] [(113, .sort Y3 114 sortTags)] none [87]
theorem qo34 (X : Type) (n : Nat) : LO (cx73 X n) 73 Tryz.f73 0 (ql34 X n) := lok
theorem cx73_ok (X : Type) (n : Nat) : CxOK Tryz.prog SW (cx73 X n) := mx (J (J Tryz.func73 (by decide)) (T1 (J Tryz.func87 (by decide)))) (T1 (orcOf_ok (ok117 n))) (J (okc (T1 (T1 (qo34 X n))) trivial) (T1 (okc trivial trivial))) trivial (T1 (sortTags_ok.mono (fun _ _ => trivial)))
abbrev P73 : List SV := [V2]
abbrev R73 : RV := .one V2
theorem ok73 (n : Nat) : FO 73 P73 R73 (F.tag_Normal n) := fnOK_of WOf.st (cx73_ok _ n) (d := 8) fun _ => by kernel_rfl
noncomputable def o73 (n : Nat) := oc 73 P73 R73 (F.tag_Normal n)
def qh35 : Shape := ⟨[(1, (.const (.ref 0 0))), (2, (.const (.ref 1 0))), (4, (.ms 3 Y2)), (13, (.ms 3 Y2)), (14, V0), (15, V0)], [[.str, V0, V1, V0, V2, V0], [.str, V0, (.sl Y2 (.own 0)), V0, (.sl Y3 (.own 1)), V0], [(.row Y2)], [(.row Y2)]], [true, true], [], [], 4, 0, 0⟩
def qe35_0 : Shape := ⟨[(1, (.const (.ref 0 0))), (2, (.const (.ref 1 0))), (4, (.ms 3 Y2))], [[.str, V0, V1, V0, V2, V0], [.str, V0, (.sl Y2 (.own 0)), V0, (.sl Y3 (.own 1)), V0], [(.row Y2)], [(.row Y2)]], [true, true], [], [], 4, 0, 0⟩
noncomputable def ql35 (X : Type) (n : Nat) : LoopI X := mkLi 8 0 0 0 qh35 [(0, qe35_0)] [] n fun m ks => F.metric_Normal.L3 n (xe qe35_0 ks 0) m
noncomputable def cx42 (X : Type) (n : Nat) : Cx X := mkCx tab.get [(42, Tryz.f42), (71, Tryz.f71)] [o67 n, o72 n, o73 n] [(42, 3, [ql35 X n])] [] [] [] [] [(53, Y2)] [] none [71]
theorem qo35 (X : Type) (n : Nat) : LO (cx42 X n) 42 Tryz.f42 0 (ql35 X n) := lok
theorem cx42_ok (X : Type) (n : Nat) : CxOK Tryz.prog SW (cx42 X n) := mx (J (J Tryz.func42 (by decide)) (T1 (J Tryz.func71 (by decide)))) (J (orcOf_ok (ok67 n)) (J (orcOf_ok (ok72 n)) (T1 (orcOf_ok (ok73 n))))) (J (okc (T1 (T1 (qo35 X n))) trivial) (T1 (okc trivial trivial))) trivial
abbrev P42 : List SV := [V3]
abbrev R42 : RV := .many [V3, V0]
theorem ok42 (n : Nat) : FO 42 P42 R42 (F.metric_Normal n) := fnOK_of WOf.st (cx42_ok _ n) (d := 8) fun _ => by kernel_rfl
noncomputable def o42 (n : Nat) := oc 42 P42 R42 (F.metric_Normal n)
def qh36 : Shape := ⟨[(0, (.const (.yield 0))), (2, (.const (.ref 5 0))), (8, V4), (9, V0), (10, V0)], [[(.sl Y6 (.own 0))], [V0], [V0], [(.sl Y6 (.own 1))], [V4], [(.const (.fn 42 [] []))]], [true, true], [.ready], [(0, 41, 5, [(4, (.const (.ref 0 0))), (5, (.const (.ref 1 0))), (6, (.const (.ref 2 0))), (7, (.const (.ref 3 0)))])], 6, 0, 1⟩
def qe36_0 : Shape := ⟨[], [[(.sl Y6 (.own 0))], [V0], [V0], [(.sl Y6 (.own 1))], [V4], [(.const (.fn 42 [] []))]], [true, true], [.ready], [], 6, 0, 1⟩
def qe36_r : Shape := ⟨[], [[(.sl Y6 (.own 0))], [V0], [V0], [(.sl Y6 (.own 1))], [V4], [(.const (.fn 42 [] []))]], [true, true], [.done .ret], [], 6, 0, 1⟩
def qe36_rx1 : Shape := ⟨[], [[(.sl Y6 (.own 0))], [V0], [V0], [(.sl Y6 (.own 1))], [V4], [(.const (.fn 42 [] []))]], [true, true], [.ready], [], 6, 0, 1⟩
noncomputable def ql36 (X : Type) (n : Nat) : LoopI X := mkLi 6 6 0 1 qh36 [(0, qe36_0)] [qe36_r, qe36_rx1] n fun m ks => F.batch_Normal.L1_batch_all_api_Metric_1 n (xe qe36_0 ks 0) (xr qe36_r ks) (xr qe36_rx1 ks) m
noncomputable def cx24 (X : Type) (n : Nat) : Cx X := mkCx tab.get [(24, Tryz.f24), (41, Tryz.f41), (70, Tryz.f70), (111, Tryz.f111)] [o42 n] [(111, 1, [ql36 X n])] [(41, 5, Tryz.f41, [4, 5, 6, 7], 0)] [(41, 8, [(0, 3)])] []
theorem qo36 (X : Type) (n : Nat) : LO (cx24 X n) 111 Tryz.f111 0 (ql36 X n) := lok
theorem cx24_ok (X : Type) (n : Nat) : CxOK Tryz.prog SW (cx24 X n) := mx (J (J Tryz.func24 (by decide)) (J (J Tryz.func41 (by decide)) (J (J Tryz.func70 (by decide)) (T1 (J Tryz.func111 (by decide)))))) (T1 (orcOf_ok (ok42 n))) (J (okc trivial trivial) (J (okc trivial (T1 (rfo (cx := cx24 X n) (g := 41) (i := 5) (lv := [4, 5, 6, 7]) (show _ = some (Tryz.f41.ntmps, _, rfNo Tryz.f41 0) by kernel_rfl)))) (J (okc trivial trivial) (T1 (okc (T1 (T1 (qo36 X n))) trivial))))) (T1 (J Tryz.func41 rfl))
abbrev P24 : List SV := [V4]
abbrev R24 : RV := .many [V4, V0, V0]
theorem ok24 (n : Nat) : FO 24 P24 R24 (F.batch_Normal n) := fnOK_of WOf.st (cx24_ok _ n) (d := 8) fun _ => by kernel_rfl
noncomputable def o24 (n : Nat) := oc 24 P24 R24 (F.batch_Normal n)
abbrev P44 : List SV := [V4]
abbrev R44 : RV := .many [V11, V0, V0]
theorem ok44 (n : Nat) : FO 44 P44 R44 (F.frame_Encode n) := fun x y hy => by cases hy
noncomputable def o44 (n : Nat) := oc 44 P44 R44 (F.frame_Encode n)
abbrev P291 : List SV := [V7, V0]
abbrev R291 : RV := .one .str
theorem ok291 (n : Nat) : FO 291 P291 R291 (O.futoa n) := futoa_ok (enters Tryz.func291 (by kernel_rfl) (by decide)) (fun k hk w hw => (Tryz.strconv_FormatUint_10 k hk w (swTab hw)).mono fun e w' ⟨a, q, os, b⟩ => ⟨a, b ▸ below_grow q os⟩) n
noncomputable def o291 (n : Nat) := oc 291 P291 R291 (O.futoa n)
abbrev P292 : List SV := [.str, V0]
abbrev R292 : RV := .one .str
theorem ok292 (n : Nat) : FO 292 P292 R292 (O.repeat' n) := repeat_ok (enters Tryz.func292 (by kernel_rfl) (by decide)) Tryz.strings_Repeat n
noncomputable def o292 (n : Nat) := oc 292 P292 R292 (O.repeat' n)
noncomputable def cx246 (X : Type) (n : Nat) : Cx X := mkCx tab.get [(246, Tryz.f246)] [o172 n, o291 n, o292 n] [] [] [] []
theorem cx246_ok (X : Type) (n : Nat) : CxOK Tryz.prog SW (cx246 X n) := mx (T1 (J Tryz.func246 (by decide))) (J (orcOf_ok (ok172 n)) (J (orcOf_ok (ok291 n)) (T1 (orcOf_ok (ok292 n))))) (T1 (okc trivial trivial)) trivial
abbrev P246 : List SV := [V8]
abbrev R246 : RV := .many [.str, V0]
theorem ok246 (n : Nat) : FO 246 P246 R246 (F.dec_Text n) := fnOK_of WOf.st (cx246_ok _ n) (d := 8) fun _ => by kernel_rfl
noncomputable def o246 (n : Nat) := oc 246 P246 R246 (F.dec_Text n)
abbrev P293 : List SV := [V0]
abbrev R293 : RV := .one .str
theorem ok293 (n : Nat) : FO 293 P293 R293 (O.itoa n) := itoa_ok (enters Tryz.func293 (by kernel_rfl) (by decide)) (fun k h0 h1 w hw => (Tryz.strconv_Itoa k h0 h1 w (swTab hw)).mono fun e w' ⟨a, q, os, b⟩ => ⟨a, b ▸ below_grow q os⟩) n
noncomputable def o293 (n : Nat) := oc 293 P293 R293 (O.itoa n)
noncomputable def cx247 (X : Type) (n : Nat) : Cx X := mkCx tab.get [(247, Tryz.f247)] [o293 n, o294 n] [] [] [] []
theorem cx247_ok (X : Type) (n : Nat) : CxOK Tryz.prog SW (cx247 X n) := mx (T1 (J Tryz.func247 (by decide))) (J (orcOf_ok (ok293 n)) (T1 (orcOf_ok (ok294 n)))) (T1 (okc trivial trivial)) trivial
abbrev P247 : List SV := [V0]
abbrev R247 : RV := .many [.str, V0]
theorem ok247 (n : Nat) : FO 247 P247 R247 (F.num_RateText n) := fnOK_of WOf.st (cx247_ok _ n) (d := 8) fun _ => by kernel_rfl
noncomputable def o247 (n : Nat) := oc 247 P247 R247 (F.num_RateText n)
noncomputable def cx182 (X : Type) (n : Nat) : Cx X := mkCx tab.get [(182, Tryz.f182)] [o46 n, o245 n, o246 n, o247 n] [] [] [] []
theorem cx182_ok (X : Type) (n : Nat) : CxOK Tryz.prog SW (cx182 X n) := mx (T1 (J Tryz.func182 (by decide))) (J (orcOf_ok (ok46 n)) (J (orcOf_ok (ok245 n)) (J (orcOf_ok (ok246 n)) (T1 (orcOf_ok (ok247 n)))))) (T1 (okc trivial trivial)) trivial
abbrev P182 : List SV := [V3]
abbrev R182 : RV := .many [.str, V0]
theorem ok182 (n : Nat) : FO 182 P182 R182 (F.statsd_Line n) := fnOK_of WOf.st (cx182_ok _ n) (d := 8) fun _ => by kernel_rfl
noncomputable def o182 (n : Nat) := oc 182 P182 R182 (F.statsd_Line n)
noncomputable def cx303 (X : Type) (n : Nat) : Cx X := mkCx tab.get [(303, Tryz.f303)] [] [] [] [] []
theorem cx303_ok (X : Type) (n : Nat) : CxOK Tryz.prog SW (cx303 X n) := mx (T1 (J Tryz.func303 (by decide))) trivial (T1 (okc trivial trivial)) trivial
abbrev P303 : List SV := []
abbrev R303 : RV := .one V13
theorem ok303 (n : Nat) : FO 303 P303 R303 (F.dog_words n) := fnOK_of WOf.st (cx303_ok _ n) (d := 8) fun _ => by kernel_rfl
noncomputable def o303 (n : Nat) := oc 303 P303 R303 (F.dog_words n)
noncomputable def cx257 (X : Type) (n : Nat) : Cx X := mkCx tab.get [(257, Tryz.f257)] [o303 n] [] [] [] []
theorem cx257_ok (X : Type) (n : Nat) : CxOK Tryz.prog SW (cx257 X n) := mx (T1 (J Tryz.func257 (by decide))) (T1 (orcOf_ok (ok303 n))) (T1 (okc trivial trivial)) trivial
abbrev P257 : List SV := [V0]
abbrev R257 : RV := .many [.str, V0]
theorem ok257 (n : Nat) : FO 257 P257 R257 (F.dog_Word n) := fnOK_of WOf.st (cx257_ok _ n) (d := 8) fun _ => by kernel_rfl
noncomputable def o257 (n : Nat) := oc 257 P257 R257 (F.dog_Word n)
abbrev P304 : List SV := [V14, .str]
abbrev R304 : RV := .one .str
theorem ok304 (n : Nat) : FO 304 P304 R304 (O.join n) := join_ok (enters Tryz.func304 (by kernel_rfl) (by decide)) Tryz.strings_Join_none Tryz.strings_Join n
noncomputable def o304 (n : Nat) := oc 304 P304 R304 (O.join n)
def qh37 : Shape := ⟨[(5, (.sl .str (.own 0))), (10, V2), (11, V0), (12, V0)], [], [true], [], [], 0, 0, 0⟩
def qe37_0 : Shape := ⟨[(5, (.sl .str (.own 0)))], [], [true], [], [], 0, 0, 0⟩
def qe37_r : Shape := ⟨[(2, .str), (3, V0), (4, V0)], [], [], [], [], 0, 0, 0⟩
noncomputable def ql37 (X : Type) (n : Nat) : LoopI X := mkLi 8 0 0 0 qh37 [(0, qe37_0)] [qe37_r] n fun m ks => F.tag_Text.L3 n (xe qe37_0 ks 0) (xr qe37_r ks) m
noncomputable def cx258 (X : Type) (n : Nat) : Cx X := mkCx tab.get [(258, Tryz.f258)] [o175 n, o304 n] [(258, 3, [ql37 X n])] [] [] []
theorem qo37 (X : Type) (n : Nat) : LO (cx258 X n) 258 Tryz.f258 0 (ql37 X n) := lok
theorem cx258_ok (X : Type) (n : Nat) : CxOK Tryz.prog SW (cx258 X n) := mx (T1 (J Tryz.func258 (by decide))) (J (orcOf_ok (ok175 n)) (T1 (orcOf_ok (ok304 n)))) (T1 (okc (T1 (T1 (qo37 X n))) trivial)) trivial
abbrev P258 : List SV := [V2]
abbrev R258 : RV := .many [.str, V0, V0]
theorem ok258 (n : Nat) : FO 258 P258 R258 (F.tag_Text n) := fnOK_of WOf.st (cx258_ok _ n) (d := 8) fun _ => by kernel_rfl
noncomputable def o258 (n : Nat) := oc 258 P258 R258 (F.tag_Text n)
noncomputable def cx259 (X : Type) (n : Nat) : Cx X := mkCx tab.get [(259, Tryz.f259)] [o293 n] [] [] [] []
theorem cx259_ok (X : Type) (n : Nat) : CxOK Tryz.prog SW (cx259 X n) := mx (T1 (J Tryz.func259 (by decide))) (T1 (orcOf_ok (ok293 n))) (T1 (okc trivial trivial)) trivial
abbrev P259 : List SV := [V0]
abbrev R259 : RV := .many [.str, V0]
theorem ok259 (n : Nat) : FO 259 P259 R259 (F.num_Text n) := fnOK_of WOf.st (cx259_ok _ n) (d := 8) fun _ => by kernel_rfl
noncomputable def o259 (n : Nat) := oc 259 P259 R259 (F.num_Text n)
def qh38 : Shape := ⟨[(1, (.const (.ref 0 0))), (5, (.const (.ref 2 0))), (6, (.const (.ref 3 0))), (7, (.const (.fn 255 [] [(.ref 3 0), (.ref 2 0)]))), (34, V1), (35, V0), (36, V0)], [[.str, V0, V1, V0, V2, V0], [(.row (.u8t 5))], [(.const (.bcell 2 277)), (.ms 1 (.u8t 5))], [V0]], [], [], [], 4, 0, 0⟩
def qe38_0 : Shape := ⟨[(1, (.const (.ref 0 0))), (5, (.const (.ref 2 0))), (6, (.const (.ref 3 0))), (7, (.const (.fn 255 [] [(.ref 3 0), (.ref 2 0)])))], [[.str, V0, V1, V0, V2, V0], [(.row (.u8t 5))], [(.const (.bcell 2 277)), (.ms 1 (.u8t 5))], [V0]], [], [], [], 4, 0, 0⟩
noncomputable def ql38 (X : Type) (n : Nat) : LoopI X := mkLi 8 0 0 0 qh38 [(0, qe38_0)] [] n fun m ks => F.dog_Line.L9 n (xe qe38_0 ks 0) m
def qh39 : Shape := ⟨[(5, (.const (.ref 2 0))), (6, (.const (.ref 3 0)))], [[.str, V0, V1, V0, V2, V0], [(.row (.u8t 5))], [(.const (.bcell 2 277)), (.ms 1 (.u8t 5))], [V0]], [], [], [], 4, 0, 0⟩
def qe39_r : Shape := ⟨[(2, .str), (3, V0)], [], [], [], [], 0, 0, 0⟩
noncomputable def ql39 (X : Type) (n : Nat) : CutI X := mkCi 8 0 0 0 qh39 [] [] [qe39_r] fun ks => F.dog_Line.C25 n (xr qe39_r ks)
def qh40 : Shape := ⟨[(1, (.const (.ref 0 0))), (5, (.const (.ref 2 0))), (6, (.const (.ref 3 0))), (7, (.const (.fn 255 [] [(.ref 3 0), (.ref 2 0)])))], [[.str, V0, V1, V0, V2, V0], [(.row (.u8t 5))], [(.const (.bcell 2 277)), (.ms 1 (.u8t 5))], [V0]], [], [], [], 4, 0, 0⟩
def qe40_r : Shape := ⟨[(2, .str), (3, V0)], [], [], [], [], 0, 0, 0⟩
noncomputable def ql40 (X : Type) (n : Nat) : CutI X := mkCi 8 0 0 0 qh40 [] [] [qe40_r] fun ks => F.dog_Line.C22 n (xr qe40_r ks)
def qh41 : Shape := ⟨[(1, (.const (.ref 0 0))), (5, (.const (.ref 2 0))), (6, (.const (.ref 3 0))), (7, (.const (.fn 255 [] [(.ref 3 0), (.ref 2 0)])))], [[.str, V0, V1, V0, V2, V0], [(.row (.u8t 5))], [(.const (.bcell 2 277)), (.ms 1 (.u8t 5))], [V0]], [], [], [], 4, 0, 0⟩
def qe41_r : Shape := ⟨[(2, .str), (3, V0)], [], [], [], [], 0, 0, 0⟩
noncomputable def ql41 (X : Type) (n : Nat) : CutI X := mkCi 8 0 0 0 qh41 [] [] [qe41_r] fun ks => F.dog_Line.C19 n (xr qe41_r ks)
def qh42 : Shape := ⟨[(1, (.const (.ref 0 0))), (5, (.const (.ref 2 0))), (6, (.const (.ref 3 0))), (7, (.const (.fn 255 [] [(.ref 3 0), (.ref 2 0)])))], [[.str, V0, V1, V0, V2, V0], [(.row (.u8t 5))], [(.const (.bcell 2 277)), (.ms 1 (.u8t 5))], [V0]], [], [], [], 4, 0, 0⟩
def qe42_r : Shape := ⟨[(2, .str), (3, V0)], [], [], [], [], 0, 0, 0⟩
noncomputable def ql42 (X : Type) (n : Nat) : CutI X := mkCi 8 0 0 0 qh42 [] [] [qe42_r] fun ks => F.dog_Line.C16 n (xr qe42_r ks)
noncomputable def cx184 (X : Type) (n : Nat) : Cx X := mkCx tab.get [(184, Tryz.f184), (255, Tryz.f255), (256, Tryz.f256)] [o42 n, o246 n, o247 n, o257 n, o258 n, o259 n] [(184, 9, [ql38 X n])] [] [] [] [(184, 16, [ql42 X n]), (184, 19, [ql41 X n]), (184, 22, [ql40 X n]), (184, 25, [ql39 X n])] [] [(260, .bstring 277 5), (302, .bcheck 277)] (some (277, 5)) []
theorem qo39 (X : Type) (n : Nat) : CO (cx184 X n) 184 Tryz.f184 24 (ql39 X n) := fun _ _ => by kernel_rfl
theorem qo40 (X : Type) (n : Nat) : CO (cx184 X n) 184 Tryz.f184 21 (ql40 X n) := fun _ _ => by kernel_rfl
theorem qo41 (X : Type) (n : Nat) : CO (cx184 X n) 184 Tryz.f184 18 (ql41 X n) := fun _ _ => by kernel_rfl
theorem qo42 (X : Type) (n : Nat) : CO (cx184 X n) 184 Tryz.f184 17 (ql42 X n) := fun _ _ => by kernel_rfl
theorem qo38 (X : Type) (n : Nat) : LO (cx184 X n) 184 Tryz.f184 0 (ql38 X n) := lok
theorem cx184_ok (X : Type) (n : Nat) : CxOK Tryz.prog SW (cx184 X n) := mx (J (J Tryz.func184 (by decide)) (J (J Tryz.func255 (by decide)) (T1 (J Tryz.func256 (by decide))))) (J (orcOf_ok (ok42 n)) (J (orcOf_ok (ok246 n)) (J (orcOf_ok (ok247 n)) (J (orcOf_ok (ok257 n)) (J (orcOf_ok (ok258 n)) (T1 (orcOf_ok (ok259 n)))))))) (J (okk (J trivial (J trivial (J trivial (J trivial (J trivial (J trivial (J trivial (J trivial (J trivial (J trivial (J trivial (J trivial (J trivial (J trivial (J trivial (J trivial (J trivial (J (T1 (qo42 X n)) (J (T1 (qo41 X n)) (J trivial (J trivial (J (T1 (qo40 X n)) (J trivial (J trivial (J (T1 (qo39 X n)) (J trivial (J trivial (J trivial (J trivial (J trivial (T1 trivial))))))))))))))))))))))))))))))) (T1 (T1 (qo38 X n))) trivial) (J (okc trivial trivial) (T1 (okc trivial trivial)))) trivial (J (bString_ok.mono (fun _ _ => trivial)) (T1 (copyCheck_ok.mono (fun _ _ => trivial))))
abbrev P184 : List SV := [V3]
abbrev R184 : RV := .many [.str, V0]
theorem ok184 (n : Nat) : FO 184 P184 R184 (F.dog_Line n) := fnOK_of WOf.st (cx184_ok _ n) (d := 8) fun _ => by kernel_rfl
noncomputable def o184 (n : Nat) := oc 184 P184 R184 (F.dog_Line n)
noncomputable def cx186 (X : Type) (n : Nat) : Cx X := mkCx tab.get [(186, Tryz.f186)] [o46 n, o246 n, o259 n] [] [] [] []
theorem cx186_ok (X : Type) (n : Nat) : CxOK Tryz.prog SW (cx186 X n) := mx (T1 (J Tryz.func186 (by decide))) (J (orcOf_ok (ok46 n)) (J (orcOf_ok (ok246 n)) (T1 (orcOf_ok (ok259 n))))) (T1 (okc trivial trivial)) trivial
abbrev P186 : List SV := [V3]
abbrev R186 : RV := .many [.str, V0]
theorem ok186 (n : Nat) : FO 186 P186 R186 (F.graphite_Line n) := fnOK_of WOf.st (cx186_ok _ n) (d := 8) fun _ => by kernel_rfl
noncomputable def o186 (n : Nat) := oc 186 P186 R186 (F.graphite_Line n)
noncomputable def cx181 (X : Type) (n : Nat) : Cx X := mkCx tab.get [(119, Tryz.f119), (181, Tryz.f181)] [o42 n, o46 n, o182 n, o184 n, o186 n] [] [] [] []
theorem cx181_ok (X : Type) (n : Nat) : CxOK Tryz.prog SW (cx181 X n) := mx (J (J Tryz.func119 (by decide)) (T1 (J Tryz.func181 (by decide)))) (J (orcOf_ok (ok42 n)) (J (orcOf_ok (ok46 n)) (J (orcOf_ok (ok182 n)) (J (orcOf_ok (ok184 n)) (T1 (orcOf_ok (ok186 n))))))) (J (okc trivial trivial) (T1 (okc trivial trivial))) trivial
abbrev P181 : List SV := [V3, V0]
abbrev R181 : RV := .many [.str, V0]
theorem ok181 (n : Nat) : FO 181 P181 R181 (F.text_Line n) := fnOK_of WOf.st (cx181_ok _ n) (d := 8) fun _ => by kernel_rfl
noncomputable def o181 (n : Nat) := oc 181 P181 R181 (F.text_Line n)
def qh43 : Shape := ⟨[(1, V0), (13, (.sl .str (.own 0))), (48, V4), (49, V0), (50, V0)], [[(.const (.fn 182 [] [])), (.const (.fn 183 [] []))], [(.const (.fn 182 [] [])), (.const (.fn 183 [] []))]], [true], [], [], 2, 0, 0⟩
def qe43_0 : Shape := ⟨[(13, (.sl .str (.own 0)))], [[(.const (.fn 182 [] [])), (.const (.fn 183 [] []))], [(.const (.fn 182 [] [])), (.const (.fn 183 [] []))]], [true], [], [], 2, 0, 0⟩
def qe43_r : Shape := ⟨[(4, (.sl .str (.own 0))), (5, V0), (6, V0)], [[(.const (.fn 182 [] [])), (.const (.fn 183 [] []))], [(.const (.fn 182 [] [])), (.const (.fn 183 [] []))]], [true], [], [], 2, 0, 0⟩
noncomputable def ql43 (X : Type) (n : Nat) : LoopI X := mkLi 8 0 0 0 qh43 [(0, qe43_0)] [qe43_r] n fun m ks => F.text_Lines.L12 n (xe qe43_0 ks 0) (xr qe43_r ks) m
def qh44 : Shape := ⟨[(1, V0), (13, (.sl .str (.own 0))), (48, V4), (49, V0), (50, V0)], [[(.const (.fn 184 [] [])), (.const (.fn 185 [] []))], [(.const (.fn 184 [] [])), (.const (.fn 185 [] []))]], [true], [], [], 2, 0, 0⟩
def qe44_0 : Shape := ⟨[(13, (.sl .str (.own 0)))], [[(.const (.fn 184 [] [])), (.const (.fn 185 [] []))], [(.const (.fn 184 [] [])), (.const (.fn 185 [] []))]], [true], [], [], 2, 0, 0⟩
def qe44_r : Shape := ⟨[(4, (.sl .str (.own 0))), (5, V0), (6, V0)], [[(.const (.fn 184 [] [])), (.const (.fn 185 [] []))], [(.const (.fn 184 [] [])), (.const (.fn 185 [] []))]], [true], [], [], 2, 0, 0⟩
noncomputable def ql44 (X : Type) (n : Nat) : LoopI X := mkLi 8 0 0 0 qh44 [(0, qe44_0)] [qe44_r] n fun m ks => F.text_Lines.L12 n (xe qe44_0 ks 0) (xr qe44_r ks) m
def qh45 : Shape := ⟨[(1, V0), (13, (.sl .str (.own 0))), (48, V4), (49, V0), (50, V0)], [[(.const (.fn 186 [] [])), (.const (.fn 187 [] []))], [(.const (.fn 186 [] [])), (.const (.fn 187 [] []))]], [true], [], [], 2, 0, 0⟩
def qe45_0 : Shape := ⟨[(13, (.sl .str (.own 0)))], [[(.const (.fn 186 [] [])), (.const (.fn 187 [] []))], [(.const (.fn 186 [] [])), (.const (.fn 187 [] []))]], [true], [], [], 2, 0, 0⟩
def qe45_r : Shape := ⟨[(4, (.sl .str (.own 0))), (5, V0), (6, V0)], [[(.const (.fn 186 [] [])), (.const (.fn 187 [] []))], [(.const (.fn 186 [] [])), (.const (.fn 187 [] []))]], [true], [], [], 2, 0, 0⟩
noncomputable def ql45 (X : Type) (n : Nat) : LoopI X := mkLi 8 0 0 0 qh45 [(0, qe45_0)] [qe45_r] n fun m ks => F.text_Lines.L12 n (xe qe45_0 ks 0) (xr qe45_r ks) m
noncomputable def cx118 (X : Type) (n : Nat) : Cx X := mkCx tab.get [(118, Tryz.f118), (119, Tryz.f119)] [o22 n, o24 n, o181 n] [(118, 12, [ql43 X n, ql44 X n, ql45 X n])] [] [] []
theorem qo43 (X : Type) (n : Nat) : LO (cx118 X n) 118 Tryz.f118 0 (ql43 X n) := lok
theorem qo44 (X : Type) (n : Nat) : LO (cx118 X n) 118 Tryz.f118 0 (ql44 X n) := lok
theorem qo45 (X : Type) (n : Nat) : LO (cx118 X n) 118 Tryz.f118 0 (ql45 X n) := lok
theorem cx118_ok (X : Type) (n : Nat) : CxOK Tryz.prog SW (cx118 X n) := mx (J (J Tryz.func118 (by decide)) (T1 (J Tryz.func119 (by decide)))) (J (orcOf_ok (ok22 n)) (J (orcOf_ok (ok24 n)) (T1 (orcOf_ok (ok181 n))))) (J (okc (T1 (J (qo43 X n) (J (qo44 X n) (T1 (qo45 X n))))) trivial) (T1 (okc trivial trivial))) trivial
abbrev P118 : List SV := [V4, V0]
abbrev R118 : RV := .many [V14, V0, V0]
theorem ok118 (n : Nat) : FO 118 P118 R118 (F.text_Lines n) := fnOK_of WOf.st (cx118_ok _ n) (d := 8) fun _ => by kernel_rfl
noncomputable def o118 (n : Nat) := oc 118 P118 R118 (F.text_Lines n)
def qh46 : Shape := ⟨[(10, (.sl .u8 (.own 0))), (24, V14), (25, V0), (26, V0)], [], [true], [], [], 0, 0, 0⟩
def qe46_0 : Shape := ⟨[(10, (.sl .u8 (.own 0)))], [], [true], [], [], 0, 0, 0⟩
noncomputable def ql46 (X : Type) (n : Nat) : LoopI X := mkLi 8 0 0 0 qh46 [(0, qe46_0)] [] n fun m ks => F.text_Encode.L6 n (xe qe46_0 ks 0) m
noncomputable def cx75 (X : Type) (n : Nat) : Cx X := mkCx tab.get [(75, Tryz.f75)] [o118 n] [(75, 6, [ql46 X n])] [] [] []
theorem qo46 (X : Type) (n : Nat) : LO (cx75 X n) 75 Tryz.f75 0 (ql46 X n) := lok
theorem cx75_ok (X : Type) (n : Nat) : CxOK Tryz.prog SW (cx75 X n) := mx (T1 (J Tryz.func75 (by decide))) (T1 (orcOf_ok (ok118 n))) (T1 (okc (T1 (T1 (qo46 X n))) trivial)) trivial
abbrev P75 : List SV := [V4, V0]
abbrev R75 : RV := .many [V11, V0, V0]
theorem ok75 (n : Nat) : FO 75 P75 R75 (F.text_Encode n) := fnOK_of WOf.st (cx75_ok _ n) (d := 8) fun _ => by kernel_rfl
noncomputable def o75 (n : Nat) := oc 75 P75 R75 (F.text_Encode n)
noncomputable def cx16 (X : Type) (n : Nat) : Cx X := mkCx tab.get [(16, Tryz.f16), (27, Tryz.f27), (43, Tryz.f43), (74, Tryz.f74)] [o22 n, o24 n, o44 n, o75 n] [] [] [] []
theorem cx16_ok (X : Type) (n : Nat) : CxOK Tryz.prog SW (cx16 X n) := mx (J (J Tryz.func16 (by decide)) (J (J Tryz.func27 (by decide)) (J (J Tryz.func43 (by decide)) (T1 (J Tryz.func74 (by decide)))))) (J (orcOf_ok (ok22 n)) (J (orcOf_ok (ok24 n)) (J (orcOf_ok (ok44 n)) (T1 (orcOf_ok (ok75 n)))))) (J (okc trivial trivial) (J (okc trivial trivial) (J (okc trivial trivial) (T1 (okc trivial trivial))))) trivial
abbrev P16 : List SV := [V4, V0]
abbrev R16 : RV := .many [V11, V0, V0]
theorem ok16 (n : Nat) : FO 16 P16 R16 (F.trans_Encode n) := fnOK_of WOf.st (cx16_ok _ n) (d := 8) fun _ => by kernel_rfl
noncomputable def o16 (n : Nat) := oc 16 P16 R16 (F.trans_Encode n)
noncomputable def cx19 (X : Type) (n : Nat) : Cx X := mkCx tab.get [(19, Tryz.f19), (27, Tryz.f27), (43, Tryz.f43)] [o11 n, o14 n, o16 n] [] [] [] []
theorem cx19_ok (X : Type) (n : Nat) : CxOK Tryz.prog SW (cx19 X n) := mx (J (J Tryz.func19 (by decide)) (J (J Tryz.func27 (by decide)) (T1 (J Tryz.func43 (by decide))))) (J (orcOf_ok (ok11 n)) (J (orcOf_ok (ok14 n)) (T1 (orcOf_ok (ok16 n))))) (J (okc trivial trivial) (J (okc trivial trivial) (T1 (okc trivial trivial)))) trivial
abbrev P19 : List SV := [V11, V0, V0]
abbrev R19 : RV := .many [V11, V0, V6]
theorem ok19 (n : Nat) : FO 19 P19 R19 (F.trans_Bytes n) := fnOK_of WOf.st (cx19_ok _ n) (d := 8) fun _ => by kernel_rfl
noncomputable def o19 (n : Nat) := oc 19 P19 R19 (F.trans_Bytes n)
noncomputable def cx20 (X : Type) (n : Nat) : Cx X := mkCx tab.get [(20, Tryz.f20)] [o14 n, o16 n] [] [] [] []
theorem cx20_ok (X : Type) (n : Nat) : CxOK Tryz.prog SW (cx20 X n) := mx (T1 (J Tryz.func20 (by decide))) (J (orcOf_ok (ok14 n)) (T1 (orcOf_ok (ok16 n)))) (T1 (okc trivial trivial)) trivial
abbrev P20 : List SV := [V11, V0]
abbrev R20 : RV := .many [V11, V6]
theorem ok20 (n : Nat) : FO 20 P20 R20 (F.trans_Canon n) := fnOK_of WOf.st (cx20_ok _ n) (d := 8) fun _ => by kernel_rfl
noncomputable def o20 (n : Nat) := oc 20 P20 R20 (F.trans_Canon n)
noncomputable def cx10 (X : Type) (n : Nat) : Cx X := mkCx tab.get [(10, Tryz.f10)] [o19 n, o20 n] [] [] [] [] [] [(30, .u8)]
theorem cx10_ok (X : Type) (n : Nat) : CxOK Tryz.prog SW (cx10 X n) := mx (T1 (J Tryz.func10 (by decide))) (J (orcOf_ok (ok19 n)) (T1 (orcOf_ok (ok20 n)))) (T1 (okc trivial trivial)) trivial
abbrev P10 : List SV := []
abbrev R10 : RV := .one .bool
theorem ok10 (n : Nat) : FO 10 P10 R10 (F.law23_awake n) := fnOK_of WOf.st (cx10_ok _ n) (d := 8) fun _ => by kernel_rfl
noncomputable def o10 (n : Nat) := oc 10 P10 R10 (F.law23_awake n)
noncomputable def cx21 (X : Type) (n : Nat) : Cx X := mkCx tab.get [(21, Tryz.f21)] [] [] [] [] []
theorem cx21_ok (X : Type) (n : Nat) : CxOK Tryz.prog SW (cx21 X n) := mx (T1 (J Tryz.func21 (by decide))) trivial (T1 (okc trivial trivial)) trivial
abbrev P21 : List SV := [V0]
abbrev R21 : RV := .one .bool
theorem ok21 (n : Nat) : FO 21 P21 R21 (F.ref23_Is n) := fnOK_of WOf.st (cx21_ok _ n) (d := 8) fun _ => by kernel_rfl
noncomputable def o21 (n : Nat) := oc 21 P21 R21 (F.ref23_Is n)
noncomputable def cx210 (X : Type) (n : Nat) : Cx X := mkCx tab.get [(210, Tryz.f210)] [] [] [] [] []
theorem cx210_ok (X : Type) (n : Nat) : CxOK Tryz.prog SW (cx210 X n) := mx (T1 (J Tryz.func210 (by decide))) trivial (T1 (okc trivial trivial)) trivial
abbrev P210 : List SV := [.str]
abbrev R210 : RV := .one .bool
theorem ok210 (n : Nat) : FO 210 P210 R210 (F.ref03_Fits n) := fnOK_of WOf.st (cx210_ok _ n) (d := 8) fun _ => by kernel_rfl
noncomputable def o210 (n : Nat) := oc 210 P210 R210 (F.ref03_Fits n)
def qh47 : Shape := ⟨[(0, .str), (3, V7), (4, V0)], [], [], [], [], 0, 0, 0⟩
def qe47_0 : Shape := ⟨[(3, V7)], [], [], [], [], 0, 0, 0⟩
noncomputable def ql47 (X : Type) (n : Nat) : LoopI X := mkLi 8 0 0 0 qh47 [(0, qe47_0)] [] n fun m ks => F.ref03_Value.L3 n (xe qe47_0 ks 0) m
noncomputable def cx211 (X : Type) (n : Nat) : Cx X := mkCx tab.get [(211, Tryz.f211)] [] [(211, 3, [ql47 X n])] [] [] []
theorem qo47 (X : Type) (n : Nat) : LO (cx211 X n) 211 Tryz.f211 0 (ql47 X n) := lok
theorem cx211_ok (X : Type) (n : Nat) : CxOK Tryz.prog SW (cx211 X n) := mx (T1 (J Tryz.func211 (by decide))) trivial (T1 (okc (T1 (T1 (qo47 X n))) trivial)) trivial
abbrev P211 : List SV := [.str]
abbrev R211 : RV := .one V7
theorem ok211 (n : Nat) : FO 211 P211 R211 (F.ref03_Value n) := fnOK_of WOf.st (cx211_ok _ n) (d := 8) fun _ => by kernel_rfl
noncomputable def o211 (n : Nat) := oc 211 P211 R211 (F.ref03_Value n)
def qh48 : Shape := ⟨[(0, .bool), (1, .str), (2, V0), (6, (.const (.ref 0 0)))], [[.bool, V7, V0]], [], [], [], 1, 0, 0⟩
def qe48_0 : Shape := ⟨[(0, .bool), (1, .str), (2, V0), (6, (.const (.ref 0 0)))], [[.bool, V7, V0]], [], [], [], 1, 0, 0⟩
noncomputable def ql48 (X : Type) (n : Nat) : LoopI X := mkLi 8 0 0 0 qh48 [(0, qe48_0)] [] n fun m ks => F.ref03_Make.L1 n (xe qe48_0 ks 0) m
def qh49 : Shape := ⟨[(0, .bool), (1, .str), (2, V0), (6, (.const (.ref 0 0)))], [[.bool, V7, V0]], [], [], [], 1, 0, 0⟩
def qe49_2 : Shape := ⟨[(0, .bool), (1, .str), (2, V0), (6, (.const (.ref 0 0)))], [[.bool, V7, V0]], [], [], [], 1, 0, 0⟩
noncomputable def ql49 (X : Type) (n : Nat) : LoopI X := mkLi 8 0 0 0 qh49 [(2, qe49_2)] [] n fun m ks => F.ref03_Make.L7 n (xe qe49_2 ks 2) m
def qh50 : Shape := ⟨[(0, .bool), (1, .str), (2, V0), (6, (.const (.ref 0 0)))], [[.bool, V7, V0]], [], [], [], 1, 0, 0⟩
def qe50_4 : Shape := ⟨[(0, .bool), (1, .str), (2, V0), (6, (.const (.ref 0 0)))], [[.bool, V7, V0]], [], [], [], 1, 0, 0⟩
noncomputable def ql50 (X : Type) (n : Nat) : LoopI X := mkLi 8 0 0 0 qh50 [(4, qe50_4)] [] n fun m ks => F.ref03_Make.L10 n (xe qe50_4 ks 4) m
noncomputable def cx139 (X : Type) (n : Nat) : Cx X := mkCx tab.get [(139, Tryz.f139)] [o210 n, o211 n] [(139, 1, [ql48 X n]), (139, 7, [ql49 X n]), (139, 10, [ql50 X n])] [] [] []
theorem qo48 (X : Type) (n : Nat) : LO (cx139 X n) 139 Tryz.f139 0 (ql48 X n) := lok
theorem qo49 (X : Type) (n : Nat) : LO (cx139 X n) 139 Tryz.f139 1 (ql49 X n) := lok
theorem qo50 (X : Type) (n : Nat) : LO (cx139 X n) 139 Tryz.f139 2 (ql50 X n) := lok
theorem cx139_ok (X : Type) (n : Nat) : CxOK Tryz.prog SW (cx139 X n) := mx (T1 (J Tryz.func139 (by decide))) (J (orcOf_ok (ok210 n)) (T1 (orcOf_ok (ok211 n)))) (T1 (okc (J (T1 (qo48 X n)) (J (T1 (qo49 X n)) (T1 (T1 (qo50 X n))))) trivial)) trivial
abbrev P139 : List SV := [.bool, .str, V0]
abbrev R139 : RV := .many [V8, .bool]
theorem ok139 (n : Nat) : FO 139 P139 R139 (F.ref03_Make n) := fnOK_of WOf.st (cx139_ok _ n) (d := 8) fun _ => by kernel_rfl
noncomputable def o139 (n : Nat) := oc 139 P139 R139 (F.ref03_Make n)
abbrev P140 : List SV := [V7]
abbrev R140 : RV := .one .str
noncomputable def cx140 (X : Type) (n m : Nat) : Cx X := mkCx tab.get [(140, Tryz.f140)] [(140, orcOf P140 R140 (appL P140 (F.ref03_Digits.go n m)))] [] [] [] []
theorem cx140_ok (X : Type) (n m : Nat) (ih : FO 140 P140 R140 (F.ref03_Digits.go n m)) : CxOK Tryz.prog SW (cx140 X n m) := mx (T1 (J Tryz.func140 (by decide))) (T1 (orcOf_ok (ih))) (T1 (okc trivial trivial)) trivial
theorem ok140_go (n : Nat) : ∀ m : Nat, FO 140 P140 R140 (F.ref03_Digits.go n m)
  | 0 => fun x y hy => by cases hy
  | m + 1 => fnOK_of WOf.st (cx140_ok _ n m (ok140_go n m)) (d := 8) fun _ => by kernel_rfl
theorem ok140 (n : Nat) : FO 140 P140 R140 (F.ref03_Digits n) := ok140_go n n
noncomputable def o140 (n : Nat) := oc 140 P140 R140 (F.ref03_Digits n)
noncomputable def cx88 (X : Type) (n : Nat) : Cx X := mkCx tab.get [(88, Tryz.f88)] [o139 n, o140 n] [] [] [(88, 3, [(1, 11), (3, 11), (6, 11)])] []
theorem cx88_ok (X : Type) (n : Nat) : CxOK Tryz.prog SW (cx88 X n) := mx (T1 (J Tryz.func88 (by decide))) (J (orcOf_ok (ok139 n)) (T1 (orcOf_ok (ok140 n)))) (T1 (okc trivial trivial)) trivial
abbrev P88 : List SV := [V8]
abbrev R88 : RV := .one V0
theorem ok88 (n : Nat) : FO 88 P88 R88 (F.ref03_Check n) := fnOK_of WOf.st (cx88_ok _ n) (d := 8) fun _ => by kernel_rfl
noncomputable def o88 (n : Nat) := oc 88 P88 R88 (F.ref03_Check n)
def qh51 : Shape := ⟨[(0, .str), (3, V0)], [], [], [], [], 0, 0, 0⟩
def qe51_0 : Shape := ⟨[(0, .str)], [], [], [], [], 0, 0, 0⟩
def qe51_r : Shape := ⟨[(2, .bool)], [], [], [], [], 0, 0, 0⟩
noncomputable def ql51 (X : Type) (n : Nat) : LoopI X := mkLi 8 0 0 0 qh51 [(0, qe51_0)] [qe51_r] n fun m ks => F.ref07_Name.L2 n (xe qe51_0 ks 0) (xr qe51_r ks) m
noncomputable def cx141 (X : Type) (n : Nat) : Cx X := mkCx tab.get [(141, Tryz.f141)] [] [(141, 2, [ql51 X n])] [] [] []
theorem qo51 (X : Type) (n : Nat) : LO (cx141 X n) 141 Tryz.f141 0 (ql51 X n) := lok
theorem cx141_ok (X : Type) (n : Nat) : CxOK Tryz.prog SW (cx141 X n) := mx (T1 (J Tryz.func141 (by decide))) trivial (T1 (okc (T1 (T1 (qo51 X n))) trivial)) trivial
abbrev P141 : List SV := [.str]
abbrev R141 : RV := .one .bool
theorem ok141 (n : Nat) : FO 141 P141 R141 (F.ref07_Name n) := fnOK_of WOf.st (cx141_ok _ n) (d := 8) fun _ => by kernel_rfl
noncomputable def o141 (n : Nat) := oc 141 P141 R141 (F.ref07_Name n)
noncomputable def cx318 (X : Type) (n : Nat) : Cx X := mkCx tab.get [(318, Tryz.f318)] [] [] [] [] []
theorem cx318_ok (X : Type) (n : Nat) : CxOK Tryz.prog SW (cx318 X n) := mx (T1 (J Tryz.func318 (by decide))) trivial (T1 (okc trivial trivial)) trivial
abbrev P318 : List SV := [V0]
abbrev R318 : RV := .one .str
theorem ok318 (n : Nat) : FO 318 P318 R318 (F.ref04_Bytes n) := fnOK_of WOf.st (cx318_ok _ n) (d := 8) fun _ => by kernel_rfl
noncomputable def o318 (n : Nat) := oc 318 P318 R318 (F.ref04_Bytes n)
def qh52 : Shape := ⟨[(1, V5), (5, .str), (6, V0)], [], [], [], [], 0, 0, 0⟩
def qe52_0 : Shape := ⟨[], [], [], [], [], 0, 0, 0⟩
def qe52_r : Shape := ⟨[(4, .bool)], [], [], [], [], 0, 0, 0⟩
noncomputable def ql52 (X : Type) (n : Nat) : LoopI X := mkLi 8 0 0 0 qh52 [(0, qe52_0)] [qe52_r] n fun m ks => F.ref04_Is.L3 n (fun _ => xe qe52_0 ks 0) (xr qe52_r ks) m
noncomputable def cx280 (X : Type) (n : Nat) : Cx X := mkCx tab.get [(280, Tryz.f280)] [o318 n] [(280, 3, [ql52 X n])] [] [] []
theorem qo52 (X : Type) (n : Nat) : LO (cx280 X n) 280 Tryz.f280 0 (ql52 X n) := lok
theorem cx280_ok (X : Type) (n : Nat) : CxOK Tryz.prog SW (cx280 X n) := mx (T1 (J Tryz.func280 (by decide))) (T1 (orcOf_ok (ok318 n))) (T1 (okc (T1 (T1 (qo52 X n))) trivial)) trivial
abbrev P280 : List SV := [V0, V5]
abbrev R280 : RV := .one .bool
theorem ok280 (n : Nat) : FO 280 P280 R280 (F.ref04_Is n) := fnOK_of WOf.st (cx280_ok _ n) (d := 8) fun _ => by kernel_rfl
noncomputable def o280 (n : Nat) := oc 280 P280 R280 (F.ref04_Is n)
def qh53 : Shape := ⟨[(0, V0), (1, .str), (5, V0)], [], [], [], [], 0, 0, 0⟩
def qe53_0 : Shape := ⟨[], [], [], [], [], 0, 0, 0⟩
def qe53_r : Shape := ⟨[(4, V0)], [], [], [], [], 0, 0, 0⟩
noncomputable def ql53 (X : Type) (n : Nat) : LoopI X := mkLi 8 0 0 0 qh53 [(0, qe53_0)] [qe53_r] n fun m ks => F.ref04_Bad.L2 n (fun _ => xe qe53_0 ks 0) (xr qe53_r ks) m
noncomputable def cx221 (X : Type) (n : Nat) : Cx X := mkCx tab.get [(221, Tryz.f221)] [o280 n] [(221, 2, [ql53 X n])] [] [] []
theorem qo53 (X : Type) (n : Nat) : LO (cx221 X n) 221 Tryz.f221 0 (ql53 X n) := lok
theorem cx221_ok (X : Type) (n : Nat) : CxOK Tryz.prog SW (cx221 X n) := mx (T1 (J Tryz.func221 (by decide))) (T1 (orcOf_ok (ok280 n))) (T1 (okc (T1 (T1 (qo53 X n))) trivial)) trivial
abbrev P221 : List SV := [V0, .str]
abbrev R221 : RV := .one V0
theorem ok221 (n : Nat) : FO 221 P221 R221 (F.ref04_Bad n) := fnOK_of WOf.st (cx221_ok _ n) (d := 8) fun _ => by kernel_rfl
noncomputable def o221 (n : Nat) := oc 221 P221 R221 (F.ref04_Bad n)
noncomputable def cx218 (X : Type) (n : Nat) : Cx X := mkCx tab.get [(218, Tryz.f218)] [o221 n] [] [] [] []
theorem cx218_ok (X : Type) (n : Nat) : CxOK Tryz.prog SW (cx218 X n) := mx (T1 (J Tryz.func218 (by decide))) (T1 (orcOf_ok (ok221 n))) (T1 (okc trivial trivial)) trivial
abbrev P218 : List SV := [V0, .str, V0, V0]
abbrev R218 : RV := .one V6
theorem ok218 (n : Nat) : FO 218 P218 R218 (F.ref04_Text n) := fnOK_of WOf.st (cx218_ok _ n) (d := 8) fun _ => by kernel_rfl
noncomputable def o218 (n : Nat) := oc 218 P218 R218 (F.ref04_Text n)
noncomputable def cx212 (X : Type) (n : Nat) : Cx X := mkCx tab.get [(212, Tryz.f212)] [o218 n] [] [] [] []
theorem cx212_ok (X : Type) (n : Nat) : CxOK Tryz.prog SW (cx212 X n) := mx (T1 (J Tryz.func212 (by decide))) (T1 (orcOf_ok (ok218 n))) (T1 (okc trivial trivial)) trivial
abbrev P212 : List SV := [V9]
abbrev R212 : RV := .one .bool
theorem ok212 (n : Nat) : FO 212 P212 R212 (F.ref06_Right n) := fnOK_of WOf.st (cx212_ok _ n) (d := 8) fun _ => by kernel_rfl
noncomputable def o212 (n : Nat) := oc 212 P212 R212 (F.ref06_Right n)
noncomputable def cx142 (X : Type) (n : Nat) : Cx X := mkCx tab.get [(142, Tryz.f142)] [o212 n] [] [] [] []
theorem cx142_ok (X : Type) (n : Nat) : CxOK Tryz.prog SW (cx142 X n) := mx (T1 (J Tryz.func142 (by decide))) (T1 (orcOf_ok (ok212 n))) (T1 (okc trivial trivial)) trivial
abbrev P142 : List SV := [V9]
abbrev R142 : RV := .one V0
theorem ok142 (n : Nat) : FO 142 P142 R142 (F.ref06_Check n) := fnOK_of WOf.st (cx142_ok _ n) (d := 8) fun _ => by kernel_rfl
noncomputable def o142 (n : Nat) := oc 142 P142 R142 (F.ref06_Check n)
def qh54 : Shape := ⟨[(2, (.const (.ref 0 0))), (5, V0)], [[.str, V0, V1, V0, V2, V0]], [], [], [], 1, 0, 0⟩
def qe54_0 : Shape := ⟨[(2, (.const (.ref 0 0)))], [[.str, V0, V1, V0, V2, V0]], [], [], [], 1, 0, 0⟩
def qe54_r : Shape := ⟨[(4, V0)], [[.str, V0, V1, V0, V2, V0]], [], [], [], 1, 0, 0⟩
noncomputable def ql54 (X : Type) (n : Nat) : LoopI X := mkLi 8 0 0 0 qh54 [(0, qe54_0)] [qe54_r] n fun m ks => F.ref07_Rest.L12 n (xe qe54_0 ks 0) (xr qe54_r ks) m
noncomputable def cx89 (X : Type) (n : Nat) : Cx X := mkCx tab.get [(89, Tryz.f89)] [o141 n, o142 n] [(89, 12, [ql54 X n])] [] [] []
theorem qo54 (X : Type) (n : Nat) : LO (cx89 X n) 89 Tryz.f89 0 (ql54 X n) := lok
theorem cx89_ok (X : Type) (n : Nat) : CxOK Tryz.prog SW (cx89 X n) := mx (T1 (J Tryz.func89 (by decide))) (J (orcOf_ok (ok141 n)) (T1 (orcOf_ok (ok142 n)))) (T1 (okc (T1 (T1 (qo54 X n))) trivial)) trivial
abbrev P89 : List SV := [V3, .bool]
abbrev R89 : RV := .one V0
theorem ok89 (n : Nat) : FO 89 P89 R89 (F.ref07_Rest n) := fnOK_of WOf.st (cx89_ok _ n) (d := 8) fun _ => by kernel_rfl
noncomputable def o89 (n : Nat) := oc 89 P89 R89 (F.ref07_Rest n)
def qh55 : Shape := ⟨[(1, (.const (.ref 0 0))), (3, .bool), (4, V0)], [[.str, V0, V1, V0, V2, V0]], [], [], [], 1, 0, 0⟩
def qe55_0 : Shape := ⟨[(1, (.const (.ref 0 0))), (3, .bool)], [[.str, V0, V1, V0, V2, V0]], [], [], [], 1, 0, 0⟩
noncomputable def ql55 (X : Type) (n : Nat) : LoopI X := mkLi 8 0 0 0 qh55 [(0, qe55_0)] [] n fun m ks => F.ref07_Check.L3 n (xe qe55_0 ks 0) m
noncomputable def cx51 (X : Type) (n : Nat) : Cx X := mkCx tab.get [(51, Tryz.f51)] [o88 n, o89 n] [(51, 3, [ql55 X n])] [] [] []
theorem qo55 (X : Type) (n : Nat) : LO (cx51 X n) 51 Tryz.f51 0 (ql55 X n) := lok
theorem cx51_ok (X : Type) (n : Nat) : CxOK Tryz.prog SW (cx51 X n) := mx (T1 (J Tryz.func51 (by decide))) (J (orcOf_ok (ok88 n)) (T1 (orcOf_ok (ok89 n)))) (T1 (okc (T1 (T1 (qo55 X n))) trivial)) trivial
abbrev P51 : List SV := [V3]
abbrev R51 : RV := .one V0
theorem ok51 (n : Nat) : FO 51 P51 R51 (F.ref07_Check n) := fnOK_of WOf.st (cx51_ok _ n) (d := 8) fun _ => by kernel_rfl
noncomputable def o51 (n : Nat) := oc 51 P51 R51 (F.ref07_Check n)
def qh56 : Shape := ⟨[(0, V4), (4, V0)], [], [], [], [], 0, 0, 0⟩
def qe56_0 : Shape := ⟨[], [], [], [], [], 0, 0, 0⟩
def qe56_r : Shape := ⟨[(2, V0), (3, V0)], [], [], [], [], 0, 0, 0⟩
noncomputable def ql56 (X : Type) (n : Nat) : LoopI X := mkLi 8 0 0 0 qh56 [(0, qe56_0)] [qe56_r] n fun m ks => F.ref08_Check.L4 n (fun _ => xe qe56_0 ks 0) (xr qe56_r ks) m
noncomputable def cx49 (X : Type) (n : Nat) : Cx X := mkCx tab.get [(49, Tryz.f49)] [o51 n] [(49, 4, [ql56 X n])] [] [] []
theorem qo56 (X : Type) (n : Nat) : LO (cx49 X n) 49 Tryz.f49 0 (ql56 X n) := lok
theorem cx49_ok (X : Type) (n : Nat) : CxOK Tryz.prog SW (cx49 X n) := mx (T1 (J Tryz.func49 (by decide))) (T1 (orcOf_ok (ok51 n))) (T1 (okc (T1 (T1 (qo56 X n))) trivial)) trivial
abbrev P49 : List SV := [V4]
abbrev R49 : RV := .many [V0, V0]
theorem ok49 (n : Nat) : FO 49 P49 R49 (F.ref08_Check n) := fnOK_of WOf.st (cx49_ok _ n) (d := 8) fun _ => by kernel_rfl
noncomputable def o49 (n : Nat) := oc 49 P49 R49 (F.ref08_Check n)
noncomputable def cx50 (X : Type) (n : Nat) : Cx X := mkCx tab.get [(50, Tryz.f50)] [] [] [] [] []
theorem cx50_ok (X : Type) (n : Nat) : CxOK Tryz.prog SW (cx50 X n) := mx (T1 (J Tryz.func50 (by decide))) trivial (T1 (okc trivial trivial)) trivial
abbrev P50 : List SV := [V3, V0]
abbrev R50 : RV := .one .bool
theorem ok50 (n : Nat) : FO 50 P50 R50 (F.ref09_Says n) := fnOK_of WOf.st (cx50_ok _ n) (d := 8) fun _ => by kernel_rfl
noncomputable def o50 (n : Nat) := oc 50 P50 R50 (F.ref09_Says n)
def qh57 : Shape := ⟨[(0, V4), (1, V0), (8, V0)], [], [], [], [], 0, 0, 0⟩
def qe57_0 : Shape := ⟨[], [], [], [], [], 0, 0, 0⟩
def qe57_r : Shape := ⟨[(4, V0), (5, V0)], [], [], [], [], 0, 0, 0⟩
noncomputable def ql57 (X : Type) (n : Nat) : LoopI X := mkLi 8 0 0 0 qh57 [(0, qe57_0)] [qe57_r] n fun m ks => F.ref09_Batch.L7 n (fun _ => xe qe57_0 ks 0) (xr qe57_r ks) m
noncomputable def cx29 (X : Type) (n : Nat) : Cx X := mkCx tab.get [(29, Tryz.f29)] [o49 n, o50 n] [(29, 7, [ql57 X n])] [] [] []
theorem qo57 (X : Type) (n : Nat) : LO (cx29 X n) 29 Tryz.f29 0 (ql57 X n) := lok
theorem cx29_ok (X : Type) (n : Nat) : CxOK Tryz.prog SW (cx29 X n) := mx (T1 (J Tryz.func29 (by decide))) (J (orcOf_ok (ok49 n)) (T1 (orcOf_ok (ok50 n)))) (T1 (okc (T1 (T1 (qo57 X n))) trivial)) trivial
abbrev P29 : List SV := [V4, V0]
abbrev R29 : RV := .many [V0, V0]
theorem ok29 (n : Nat) : FO 29 P29 R29 (F.ref09_Batch n) := fnOK_of WOf.st (cx29_ok _ n) (d := 8) fun _ => by kernel_rfl
noncomputable def o29 (n : Nat) := oc 29 P29 R29 (F.ref09_Batch n)
noncomputable def cx52 (X : Type) (n : Nat) : Cx X := mkCx tab.get [(52, Tryz.f52)] [] [] [] [] []
theorem cx52_ok (X : Type) (n : Nat) : CxOK Tryz.prog SW (cx52 X n) := mx (T1 (J Tryz.func52 (by decide))) trivial (T1 (okc trivial trivial)) trivial
abbrev P52 : List SV := [V3]
abbrev R52 : RV := .one V3
theorem ok52 (n : Nat) : FO 52 P52 R52 (F.ref07_Copy n) := fnOK_of WOf.st (cx52_ok _ n) (d := 8) fun _ => by kernel_rfl
noncomputable def o52 (n : Nat) := oc 52 P52 R52 (F.ref07_Copy n)
def qh58 : Shape := ⟨[(1, V0), (2, (.const (.ref 0 0))), (7, (.sl Y6 (.own 0))), (8, V0)], [[.str, V0, V1, V0, V2, V0]], [true], [], [], 1, 0, 0⟩
def qe58_0 : Shape := ⟨[(7, (.sl Y6 (.own 0)))], [[.str, V0, V1, V0, V2, V0]], [true], [], [], 1, 0, 0⟩
noncomputable def ql58 (X : Type) (n : Nat) : LoopI X := mkLi 8 0 0 0 qh58 [(0, qe58_0)] [] n fun m ks => F.ref09_Cut.L10 n (xe qe58_0 ks 0) m
noncomputable def cx30 (X : Type) (n : Nat) : Cx X := mkCx tab.get [(30, Tryz.f30)] [o50 n, o51 n, o52 n] [(30, 10, [ql58 X n])] [] [] []
theorem qo58 (X : Type) (n : Nat) : LO (cx30 X n) 30 Tryz.f30 0 (ql58 X n) := lok
theorem cx30_ok (X : Type) (n : Nat) : CxOK Tryz.prog SW (cx30 X n) := mx (T1 (J Tryz.func30 (by decide))) (J (orcOf_ok (ok50 n)) (J (orcOf_ok (ok51 n)) (T1 (orcOf_ok (ok52 n))))) (T1 (okc (T1 (T1 (qo58 X n))) trivial)) trivial
abbrev P30 : List SV := [V3, V0]
abbrev R30 : RV := .many [V4, V0]
theorem ok30 (n : Nat) : FO 30 P30 R30 (F.ref09_Cut n) := fnOK_of WOf.st (cx30_ok _ n) (d := 8) fun _ => by kernel_rfl
noncomputable def o30 (n : Nat) := oc 30 P30 R30 (F.ref09_Cut n)
def qh59 : Shape := ⟨[(0, V4), (2, V0), (11, (.sl Y6 (.own 0))), (12, V0)], [], [true], [], [], 0, 0, 0⟩
def qe59_0 : Shape := ⟨[(11, (.sl Y6 (.own 0)))], [], [true], [], [], 0, 0, 0⟩
def qe59_r : Shape := ⟨[(6, (.sl Y6 (.own 0))), (7, V0), (8, V0)], [], [true], [], [], 0, 0, 0⟩
noncomputable def ql59 (X : Type) (n : Nat) : LoopI X := mkLi 8 0 0 0 qh59 [(0, qe59_0)] [qe59_r] n fun m ks => F.ref23_Metrics.L8 n (xe qe59_0 ks 0) (xr qe59_r ks) m
noncomputable def cx12 (X : Type) (n : Nat) : Cx X := mkCx tab.get [(12, Tryz.f12)] [o21 n, o29 n, o30 n] [(12, 8, [ql59 X n])] [] [] []
theorem qo59 (X : Type) (n : Nat) : LO (cx12 X n) 12 Tryz.f12 0 (ql59 X n) := lok
theorem cx12_ok (X : Type) (n : Nat) : CxOK Tryz.prog SW (cx12 X n) := mx (T1 (J Tryz.func12 (by decide))) (J (orcOf_ok (ok21 n)) (J (orcOf_ok (ok29 n)) (T1 (orcOf_ok (ok30 n))))) (T1 (okc (T1 (T1 (qo59 X n))) trivial)) trivial
abbrev P12 : List SV := [V4, V0, V0]
abbrev R12 : RV := .many [V4, V0, V0]
theorem ok12 (n : Nat) : FO 12 P12 R12 (F.ref23_Metrics n) := fnOK_of WOf.st (cx12_ok _ n) (d := 8) fun _ => by kernel_rfl
noncomputable def o12 (n : Nat) := oc 12 P12 R12 (F.ref23_Metrics n)
def qh60 : Shape := ⟨[(2, (.const (.ref 0 0))), (3, (.const (.ref 1 0))), (5, V0)], [[.str, V0, V1, V0, V2, V0], [.str, V0, V1, V0, V2, V0]], [], [], [], 2, 0, 0⟩
def qe60_0 : Shape := ⟨[(2, (.const (.ref 0 0))), (3, (.const (.ref 1 0)))], [[.str, V0, V1, V0, V2, V0], [.str, V0, V1, V0, V2, V0]], [], [], [], 2, 0, 0⟩
def qe60_r : Shape := ⟨[(4, .bool)], [[.str, V0, V1, V0, V2, V0], [.str, V0, V1, V0, V2, V0]], [], [], [], 2, 0, 0⟩
noncomputable def ql60 (X : Type) (n : Nat) : LoopI X := mkLi 8 0 0 0 qh60 [(0, qe60_0)] [qe60_r] n fun m ks => F.ref07_Equal.L4 n (xe qe60_0 ks 0) (xr qe60_r ks) m
def qh61 : Shape := ⟨[(2, (.const (.ref 0 0))), (3, (.const (.ref 1 0))), (6, V0)], [[.str, V0, V1, V0, V2, V0], [.str, V0, V1, V0, V2, V0]], [], [], [], 2, 0, 0⟩
def qe61_2 : Shape := ⟨[], [[.str, V0, V1, V0, V2, V0], [.str, V0, V1, V0, V2, V0]], [], [], [], 2, 0, 0⟩
def qe61_r : Shape := ⟨[(4, .bool)], [[.str, V0, V1, V0, V2, V0], [.str, V0, V1, V0, V2, V0]], [], [], [], 2, 0, 0⟩
noncomputable def ql61 (X : Type) (n : Nat) : LoopI X := mkLi 8 0 0 0 qh61 [(2, qe61_2)] [qe61_r] n fun m ks => F.ref07_Equal.L9 n (xe qe61_2 ks 2) (xr qe61_r ks) m
noncomputable def cx31 (X : Type) (n : Nat) : Cx X := mkCx tab.get [(31, Tryz.f31)] [] [(31, 4, [ql60 X n]), (31, 9, [ql61 X n])] [] [] []
theorem qo60 (X : Type) (n : Nat) : LO (cx31 X n) 31 Tryz.f31 0 (ql60 X n) := lok
theorem qo61 (X : Type) (n : Nat) : LO (cx31 X n) 31 Tryz.f31 1 (ql61 X n) := lok
theorem cx31_ok (X : Type) (n : Nat) : CxOK Tryz.prog SW (cx31 X n) := mx (T1 (J Tryz.func31 (by decide))) trivial (T1 (okc (J (T1 (qo60 X n)) (T1 (T1 (qo61 X n)))) trivial)) trivial
abbrev P31 : List SV := [V3, V3]
abbrev R31 : RV := .one .bool
theorem ok31 (n : Nat) : FO 31 P31 R31 (F.ref07_Equal n) := fnOK_of WOf.st (cx31_ok _ n) (d := 8) fun _ => by kernel_rfl
noncomputable def o31 (n : Nat) := oc 31 P31 R31 (F.ref07_Equal n)
def qh62 : Shape := ⟨[(0, V4), (1, V4), (5, V0)], [], [], [], [], 0, 0, 0⟩
def qe62_0 : Shape := ⟨[], [], [], [], [], 0, 0, 0⟩
def qe62_r : Shape := ⟨[(4, .bool)], [], [], [], [], 0, 0, 0⟩
noncomputable def ql62 (X : Type) (n : Nat) : LoopI X := mkLi 8 0 0 0 qh62 [(0, qe62_0)] [qe62_r] n fun m ks => F.ref08_Equal.L4 n (fun _ => xe qe62_0 ks 0) (xr qe62_r ks) m
noncomputable def cx13 (X : Type) (n : Nat) : Cx X := mkCx tab.get [(13, Tryz.f13)] [o31 n] [(13, 4, [ql62 X n])] [] [] []
theorem qo62 (X : Type) (n : Nat) : LO (cx13 X n) 13 Tryz.f13 0 (ql62 X n) := lok
theorem cx13_ok (X : Type) (n : Nat) : CxOK Tryz.prog SW (cx13 X n) := mx (T1 (J Tryz.func13 (by decide))) (T1 (orcOf_ok (ok31 n))) (T1 (okc (T1 (T1 (qo62 X n))) trivial)) trivial
abbrev P13 : List SV := [V4, V4]
abbrev R13 : RV := .one .bool
theorem ok13 (n : Nat) : FO 13 P13 R13 (F.ref08_Equal n) := fnOK_of WOf.st (cx13_ok _ n) (d := 8) fun _ => by kernel_rfl
noncomputable def o13 (n : Nat) := oc 13 P13 R13 (F.ref08_Equal n)
noncomputable def cx3 (X : Type) (n : Nat) : Cx X := mkCx tab.get [(3, Tryz.f3)] [o9 n, o10 n, o11 n, o12 n, o13 n] [] [] [] []
theorem cx3_ok (X : Type) (n : Nat) : CxOK Tryz.prog SW (cx3 X n) := mx (T1 (J Tryz.func3 (by decide))) (J (orcOf_ok (ok9 n)) (J (orcOf_ok (ok10 n)) (J (orcOf_ok (ok11 n)) (J (orcOf_ok (ok12 n)) (T1 (orcOf_ok (ok13 n))))))) (T1 (okc trivial trivial)) trivial
abbrev P3 : List SV := [V4, V0, V0]
abbrev R3 : RV := .one .bool
theorem ok3 (n : Nat) : FO 3 P3 R3 (F.law23_TransMetrics n) := fnOK_of WOf.st (cx3_ok _ n) (d := 8) fun _ => by kernel_rfl
end Go.AM
set_option linter.unusedVariables false
set_option linter.unusedSimpArgs false
namespace Go.AM
def isDig (b : UInt8) : Bool := decide (48 ≤ b.toNat) && decide (b.toNat ≤ 57)
def dv (b : UInt8) : Nat := b.toNat - 48
def valF (a : Nat) (l : List UInt8) : Nat := l.foldl (fun a b => a * 10 + dv b) a
theorem valF_nil (a : Nat) : valF a [] = a := rfl
theorem valF_cons (a : Nat) (b : UInt8) (l : List UInt8) : valF a (b :: l) = valF (a * 10 + dv b) l := by unfold valF; rw [List.foldl_cons]
def val (l : List UInt8) : Nat := valF 0 l
def Digs (l : List UInt8) : Prop := l.all isDig = true
theorem isDig_iff {b : UInt8} : isDig b = true ↔ 48 ≤ b.toNat ∧ b.toNat ≤ 57 := by simp [isDig]
theorem digs_cons {b : UInt8} {l : List UInt8} : Digs (b :: l) ↔ isDig b = true ∧ Digs l := by simp [Digs]
theorem digs_append {l m : List UInt8} : Digs (l ++ m) ↔ Digs l ∧ Digs m := by simp [Digs]
theorem digs_rep (k : Nat) : Digs (List.replicate k 48) := by
  unfold Digs
  rw [List.all_eq_true]
  intro x hx
  rw [List.eq_of_mem_replicate hx]
  rfl
theorem dv_lt {b : UInt8} (h : isDig b = true) : dv b < 10 := by
  have := isDig_iff.1 h
  unfold dv
  omega
theorem u8_ext {a b : UInt8} (h : a.toNat = b.toNat) : a = b := UInt8.toNat_inj.1 h
theorem dv_inj {a b : UInt8} (ha : isDig a = true) (hb : isDig b = true) (h : dv a = dv b) : a = b := by
  have h1 := isDig_iff.1 ha
  have h2 := isDig_iff.1 hb
  unfold dv at h
  exact u8_ext (by omega)
theorem valF_eq (a : Nat) (l : List UInt8) : valF a l = a * 10 ^ l.length + val l := by
  unfold val
  induction l generalizing a with
  | nil => rw [valF_nil, valF_nil]; simp
  | cons b l ih =>
    simp only [valF_cons, List.length_cons]
    rw [ih (a * 10 + dv b), ih (0 * 10 + dv b), Nat.pow_succ, Nat.add_mul, Nat.zero_mul, Nat.zero_add, Nat.mul_assoc, Nat.mul_comm 10, Nat.add_assoc]
theorem val_nil : val [] = 0 := rfl
theorem val_cons (b : UInt8) (l : List UInt8) : val (b :: l) = dv b * 10 ^ l.length + val l := by
  show valF (0 * 10 + dv b) l = _
  rw [valF_eq, Nat.zero_mul, Nat.zero_add]
theorem val_append (l m : List UInt8) : val (l ++ m) = val l * 10 ^ m.length + val m := by
  induction l with
  | nil => simp [val_nil]
  | cons b l ih => rw [List.cons_append, val_cons, val_cons, ih, List.length_append, Nat.pow_add, Nat.add_mul, Nat.mul_assoc, Nat.add_assoc]
theorem val_snoc (l : List UInt8) (b : UInt8) : val (l ++ [b]) = val l * 10 + dv b := by rw [val_append, val_cons]; simp [val_nil]
theorem val_lt {l : List UInt8} (h : Digs l) : val l < 10 ^ l.length := by
  induction l with
  | nil => simp [val_nil]
  | cons b l ih =>
    obtain ⟨h1, h2⟩ := digs_cons.1 h
    have := ih h2
    have hd := dv_lt h1
    rw [val_cons, List.length_cons, Nat.pow_succ, Nat.mul_comm (10 ^ l.length)]
    have h3 : dv b * 10 ^ l.length ≤ 9 * 10 ^ l.length := Nat.mul_le_mul_right _ (by omega)
    omega
theorem dv_48 : dv 48 = 0 := rfl
theorem val_rep (k : Nat) : val (List.replicate k 48) = 0 := by
  induction k with
  | zero => rfl
  | succ k ih => rw [List.replicate_succ, val_cons, ih, dv_48]; simp
theorem val_zeros_left (k : Nat) (l : List UInt8) : val (List.replicate k 48 ++ l) = val l := by rw [val_append, val_rep]; simp
theorem val_zeros_right (k : Nat) (l : List UInt8) : val (l ++ List.replicate k 48) = val l * 10 ^ k := by rw [val_append, val_rep]; simp
theorem val_eq_zero {l : List UInt8} (hd : Digs l) (h : val l = 0) : l = List.replicate l.length 48 := by
  induction l with
  | nil => rfl
  | cons b l ih =>
    obtain ⟨h1, h2⟩ := digs_cons.1 hd
    rw [val_cons] at h
    have hp : 0 < 10 ^ l.length := Nat.pow_pos (by omega)
    have h3 : dv b = 0 := by
      cases hb : dv b with
      | zero => rfl
      | succ k => rw [hb, Nat.succ_mul] at h; omega
    rw [List.length_cons, List.replicate_succ, ← ih h2 (by omega)]
    rw [dv_inj (a := b) (b := 48) h1 rfl h3]
theorem val_inj {l m : List UInt8} (hl : Digs l) (hm : Digs m) (hlen : l.length = m.length) (h : val l = val m) : l = m := by
  induction l generalizing m with
  | nil => cases m with
    | nil => rfl
    | cons => simp at hlen
  | cons b l ih => cases m with
    | nil => simp at hlen
    | cons c m =>
      obtain ⟨h1, h2⟩ := digs_cons.1 hl
      obtain ⟨h3, h4⟩ := digs_cons.1 hm
      have hlen : l.length = m.length := by simpa using hlen
      rw [val_cons, val_cons, hlen] at h
      have b1 := val_lt h2
      have b2 := val_lt h4
      rw [hlen] at b1
      have hp : 0 < 10 ^ m.length := Nat.pow_pos (by omega)
      have e : dv b = dv c := by
        have q1 := congrArg (· / 10 ^ m.length) h
        simp only [Nat.mul_comm (dv b), Nat.mul_comm (dv c), Nat.mul_add_div hp, Nat.div_eq_of_lt b1, Nat.div_eq_of_lt b2] at q1
        omega
      rw [e] at h
      rw [dv_inj h1 h3 e, ih h2 h4 hlen (by omega)]
theorem dig_of (k : Nat) (h : k < 10) : (UInt8.ofNat (48 + k)).toNat = 48 + k := by simp [UInt8.toNat_ofNat']; omega
theorem isDig_of (k : Nat) (h : k < 10) : isDig (UInt8.ofNat (48 + k)) = true := by rw [isDig_iff, dig_of k h]; omega
theorem dv_of (k : Nat) (h : k < 10) : dv (UInt8.ofNat (48 + k)) = k := by unfold dv; rw [dig_of k h]; omega
theorem dd_small {u : Nat} (h : u < 10) : Lib.decDigits u = [UInt8.ofNat (48 + u)] := Lib.decDigits_one h
theorem dd_big {u : Nat} (h : ¬ u < 10) : Lib.decDigits u = Lib.decDigits (u / 10) ++ [UInt8.ofNat (48 + u % 10)] := by rw [Lib.decDigits, dif_neg h]
theorem dd_digs (u : Nat) : Digs (Lib.decDigits u) := by
  induction u using Nat.strongRecOn with
  | _ u ih =>
    by_cases h : u < 10
    · rw [dd_small h, digs_cons]; exact ⟨isDig_of u h, rfl⟩
    · rw [dd_big h, digs_append, digs_cons]
      exact ⟨ih _ (by omega), isDig_of _ (by omega), rfl⟩
theorem dd_val (u : Nat) : val (Lib.decDigits u) = u := by
  induction u using Nat.strongRecOn with
  | _ u ih =>
    by_cases h : u < 10
    · rw [dd_small h, val_cons, dv_of u h]; simp [val_nil]
    · rw [dd_big h, val_snoc, ih _ (by omega), dv_of _ (by omega)]; omega
theorem dd_length (u : Nat) : (Lib.decDigits u).length = Lib.nDigits u := Lib.decDigits_length u
theorem dd_length_le {u k : Nat} (hk : 0 < k) (h : u < 10 ^ k) : (Lib.decDigits u).length ≤ k := by
  rw [dd_length]
  induction k generalizing u with
  | zero => omega
  | succ k ih =>
    by_cases h1 : u < 10
    · rw [Lib.nDigits_small h1]; omega
    · rw [Lib.nDigits_big h1]
      cases k with
      | zero => simp at h; omega
      | succ k =>
        have := ih (u := u / 10) (by omega) (by rw [Nat.pow_succ] at h; omega)
        omega
def trz : List UInt8 → List UInt8
  | [] => []
  | b :: l => if trz l = [] then (if b = 48 then [] else [b]) else b :: trz l
theorem trimR_rep (l : List UInt8) (c : UInt8) : ∃ k, l = Lib.trimRightB l c ++ List.replicate k c ∧ (∀ x, (Lib.trimRightB l c).getLast? = some x → x ≠ c) := by
  have h := List.takeWhile_append_dropWhile (p := fun b : UInt8 => b == c) (l := l.reverse)
  refine ⟨(l.reverse.takeWhile (· == c)).length, ?_, ?_⟩
  · unfold Lib.trimRightB
    have h2 := congrArg List.reverse h
    rw [List.reverse_append, List.reverse_reverse] at h2
    have h3 : (l.reverse.takeWhile (· == c)).reverse = List.replicate (l.reverse.takeWhile (· == c)).length c := by
      rw [List.eq_replicate_iff]
      refine ⟨by simp, fun b hb => ?_⟩
      have := List.all_eq_true.1 (List.all_takeWhile (p := fun b : UInt8 => b == c) (l := l.reverse)) b (List.mem_reverse.1 hb)
      simpa using this
    rw [h3] at h2
    exact h2.symm
  · intro x hx
    unfold Lib.trimRightB at hx
    rw [List.getLast?_reverse] at hx
    have := List.head?_dropWhile_not (p := fun b : UInt8 => b == c) (l := l.reverse)
    rw [hx] at this
    simpa using this
theorem trz_rep (l : List UInt8) : ∃ k, l = trz l ++ List.replicate k 48 ∧ (∀ x, (trz l).getLast? = some x → x ≠ 48) := by
  induction l with
  | nil => exact ⟨0, rfl, by simp [trz]⟩
  | cons b l ih =>
    obtain ⟨k, h1, h2⟩ := ih
    unfold trz
    by_cases h : trz l = []
    · rw [if_pos h]
      rw [h, List.nil_append] at h1
      by_cases hb : b = 48
      · rw [if_pos hb]
        exact ⟨k + 1, by rw [List.replicate_succ, ← h1, hb]; rfl, by simp⟩
      · rw [if_neg hb]
        exact ⟨k, by rw [← h1]; rfl, by simp [hb]⟩
    · rw [if_neg h]
      refine ⟨k, by rw [List.cons_append, ← h1], ?_⟩
      intro x hx
      rw [List.getLast?_cons] at hx
      cases e : (trz l).getLast? with
      | none => simp at e; exact absurd e h
      | some y =>
        rw [e] at hx
        have hy := h2 y e
        simp at hx
        rw [← hx]; exact hy
theorem rep_uniq {a b : List UInt8} {c : UInt8} {i j : Nat} (h : a ++ List.replicate i c = b ++ List.replicate j c) (ha : ∀ x, a.getLast? = some x → x ≠ c) (hb : ∀ x, b.getLast? = some x → x ≠ c) : a = b := by
  induction i generalizing j with
  | zero =>
    cases j with
    | zero => simpa using h
    | succ j =>
      rw [List.replicate_succ', ← List.append_assoc] at h
      simp only [List.replicate_zero, List.append_nil] at h
      exact absurd rfl (ha c (by rw [h]; simp))
  | succ i ih =>
    cases j with
    | zero =>
      rw [List.replicate_succ', ← List.append_assoc] at h
      simp only [List.replicate_zero, List.append_nil] at h
      exact absurd rfl (hb c (by rw [← h]; simp))
    | succ j =>
      rw [List.replicate_succ', List.replicate_succ', ← List.append_assoc, ← List.append_assoc] at h
      exact ih (List.append_inj_left' h rfl)
theorem trimR_trz (l : List UInt8) : Lib.trimRightB l 48 = trz l := by
  obtain ⟨i, h1, h2⟩ := trimR_rep l 48
  obtain ⟨j, h3, h4⟩ := trz_rep l
  exact rep_uniq (h1.symm.trans h3) h2 h4
theorem trz_zeros (l : List UInt8) (k : Nat) : trz (l ++ List.replicate k 48) = trz l := by
  obtain ⟨i, h1, h2⟩ := trz_rep (l ++ List.replicate k 48)
  obtain ⟨j, h3, h4⟩ := trz_rep l
  refine rep_uniq (i := i) (j := j + k) (c := 48) ?_ h2 h4
  rw [← h1]
  conv => lhs; rw [h3]
  rw [List.append_assoc, List.replicate_append_replicate]
theorem trz_le (l : List UInt8) : (trz l).length ≤ l.length := by
  obtain ⟨k, h1, _⟩ := trz_rep l
  have := congrArg List.length h1
  simp at this
  omega
theorem trz_digs {l : List UInt8} (h : Digs l) : Digs (trz l) := by
  obtain ⟨k, h1, _⟩ := trz_rep l
  rw [h1, digs_append] at h
  exact h.1
theorem trz_pad (l : List UInt8) : l = trz l ++ List.replicate (l.length - (trz l).length) 48 := by
  obtain ⟨k, h1, _⟩ := trz_rep l
  have := congrArg List.length h1
  simp at this
  rw [show l.length - (trz l).length = k from by omega]
  exact h1
theorem trz_last {l : List UInt8} {x : UInt8} (h : (trz l).getLast? = some x) : x ≠ 48 := by
  obtain ⟨k, _, h2⟩ := trz_rep l
  exact h2 x h
theorem trz_nil {l : List UInt8} (hd : Digs l) : trz l = [] ↔ val l = 0 := by
  constructor
  · intro h
    have := trz_pad l
    rw [h, List.nil_append] at this
    rw [this, val_rep]
  · intro h
    have := val_eq_zero hd h
    obtain ⟨k, h1, h2⟩ := trz_rep l
    rw [this] at h1 ⊢
    have := trz_zeros [] l.length
    simpa [trz] using this
theorem bl_cons (b c : UInt8) (l m : List UInt8) : Op.bytesLess (b :: l) (c :: m) = (decide (b.toNat < c.toNat) || (decide (b.toNat = c.toNat) && Op.bytesLess l m)) := by
  show (decide (b < c) || ((b == c) && Op.bytesLess l m)) = _
  congr 1
  congr 1
  by_cases h : b = c
  · simp [h]
  · have : ¬ b.toNat = c.toNat := fun hh => h (u8_ext hh)
    simp [h, this]
theorem less_val {l m : List UInt8} (hl : Digs l) (hm : Digs m) (hlen : l.length = m.length) : Op.bytesLess l m = decide (val l < val m) := by
  induction l generalizing m with
  | nil => cases m with
    | nil => rfl
    | cons => simp at hlen
  | cons b l ih => cases m with
    | nil => simp at hlen
    | cons c m =>
      obtain ⟨h1, h2⟩ := digs_cons.1 hl
      obtain ⟨h3, h4⟩ := digs_cons.1 hm
      have hlen : l.length = m.length := by simpa using hlen
      have b1 := val_lt h2
      have b2 := val_lt h4
      rw [hlen] at b1
      have d1 := isDig_iff.1 h1
      have d2 := isDig_iff.1 h3
      rw [bl_cons, val_cons, val_cons, hlen]
      by_cases hn : b.toNat < c.toNat
      · have : (dv b + 1) * 10 ^ m.length ≤ dv c * 10 ^ m.length := Nat.mul_le_mul_right _ (by unfold dv; omega)
        rw [Nat.add_mul] at this
        have h5 : dv b * 10 ^ m.length + val l < dv c * 10 ^ m.length + val m := by omega
        simp [hn, h5]
      · by_cases hn' : c.toNat < b.toNat
        · have : (dv c + 1) * 10 ^ m.length ≤ dv b * 10 ^ m.length := Nat.mul_le_mul_right _ (by unfold dv; omega)
          rw [Nat.add_mul] at this
          have h5 : ¬ dv b * 10 ^ m.length + val l < dv c * 10 ^ m.length + val m := by omega
          have h6 : ¬ b.toNat = c.toNat := by omega
          simp [hn, h5, h6]
        · rw [ih h2 h4 hlen]
          have : b = c := u8_ext (by omega)
          subst this
          simp
end Go.AM
set_option linter.unusedVariables false
set_option linter.unusedSimpArgs false
namespace Go.AM
abbrev DecD := Bool × Int × Int × Unit
abbrev DecR := DecD × Int × Unit
def two64 : Nat := 18446744073709551616
theorem two64_eq : two64 = 18446744073709551616 := rfl
def normR (neg : Bool) (c0 : Nat) (E : Int) : DecR :=
  if E < -18 then ((false, 0, 0, ()), 10, ()) else if c0 * 10 ^ (E - 18).toNat < two64 then ((neg, ((c0 * 10 ^ (E - 18).toNat : Nat) : Int), (if E ≤ 18 then E else 18), ()), 0, ()) else ((false, 0, 0, ()), 10, ())
def zeroD : DecR := ((false, 0, 0, ()), 0, ())
def valR (neg : Bool) (d : List UInt8) (e : Int) : DecR :=
  if val d = 0 then zeroD else normR neg (val (trz d)) (e + ((d.length - (trz d).length : Nat) : Int))
theorem val_trz (d : List UInt8) : val d = val (trz d) * 10 ^ (d.length - (trz d).length) := by
  have := congrArg val (trz_pad d)
  rw [val_zeros_right] at this
  exact this
theorem core_trz {d : List UInt8} (hd : Digs d) (h : val d ≠ 0) : val (trz d) % 10 ≠ 0 := by
  have hne : trz d ≠ [] := fun hh => h ((trz_nil hd).1 hh)
  obtain ⟨x, hx⟩ : ∃ x, (trz d).getLast? = some x := by
    cases e : (trz d).getLast? with
    | none => simp at e; exact absurd e hne
    | some x => exact ⟨x, rfl⟩
  have hx48 := trz_last hx
  obtain ⟨ys, hys⟩ := List.getLast?_eq_some_iff.1 hx
  have hdig := trz_digs hd
  rw [hys] at hdig ⊢
  obtain ⟨_, h2⟩ := digs_append.1 hdig
  obtain ⟨h3, _⟩ := digs_cons.1 h2
  rw [val_snoc]
  have := dv_lt h3
  have h0 : dv x ≠ 0 := fun h0 => hx48 (dv_inj h3 (b := 48) rfl h0)
  omega
theorem core_unique {a b i j : Nat} (ha : a % 10 ≠ 0) (hb : b % 10 ≠ 0) (h : a * 10 ^ i = b * 10 ^ j) : a = b ∧ i = j := by
  induction i generalizing j with
  | zero =>
    cases j with
    | zero => simpa using h
    | succ j => rw [Nat.pow_zero, Nat.mul_one, Nat.pow_succ, ← Nat.mul_assoc] at h; omega
  | succ i ih =>
    cases j with
    | zero => rw [Nat.pow_zero, Nat.mul_one, Nat.pow_succ, ← Nat.mul_assoc] at h; omega
    | succ j =>
      rw [Nat.pow_succ, Nat.pow_succ, ← Nat.mul_assoc, ← Nat.mul_assoc] at h
      obtain ⟨h1, h2⟩ := ih (Nat.eq_of_mul_eq_mul_right (by omega) h)
      exact ⟨h1, by omega⟩
theorem valR_core {d : List UInt8} (hd : Digs d) {c0 z : Nat} (h0 : c0 % 10 ≠ 0) (hv : val d = c0 * 10 ^ z) (neg : Bool) (e : Int) : valR neg d e = normR neg c0 (e + z) := by
  have hne : val d ≠ 0 := by
    rw [hv]
    have := Nat.mul_pos (show 0 < c0 by omega) (Nat.pow_pos (n := z) (show 0 < 10 by omega))
    omega
  unfold valR
  rw [if_neg hne]
  obtain ⟨h1, h2⟩ := core_unique (core_trz hd hne) h0 ((val_trz d).symm.trans hv)
  rw [h1, h2]
theorem ten_split (c : Nat) (h : 0 < c) : ∃ c0 z, c = c0 * 10 ^ z ∧ c0 % 10 ≠ 0 := by
  induction c using Nat.strongRecOn with
  | _ c ih =>
    by_cases h1 : c % 10 = 0
    · obtain ⟨c0, z, h2, h3⟩ := ih (c / 10) (by omega) (by omega)
      exact ⟨c0, z + 1, by rw [Nat.pow_succ, ← Nat.mul_assoc, ← h2]; omega, h3⟩
    · exact ⟨c, 0, by simp, h1⟩
theorem times_eq (n : Nat) (c d : Nat) (hc : c < two64) (hd : d < two64) : F.dec_times n (c : Int) (d : Int) = some ((((c * 10 + d) % two64 : Nat) : Int), decide (c * 10 + d < two64), ()) := by
  unfold F.dec_times O.mul64
  rw [two64_eq] at *
  rw [bif_pos (by omega), some_bind']
  unfold O.add64
  rw [show (c : Int).toNat = c from rfl, show (10 : Int).toNat = 10 from rfl]
  dsimp only
  rw [bif_pos (by omega), some_bind']
  simp only [Int.toNat_natCast, show (0 : Int).toNat = 0 from rfl, Nat.add_zero]
  by_cases h : c * 10 < 18446744073709551616
  · have e1 : ((((c * 10 / 18446744073709551616 : Nat) : Int)) == 0) = true := by simp; omega
    rw [e1, cond_true]
    have e2 : c * 10 % 18446744073709551616 = c * 10 := Nat.mod_eq_of_lt h
    rw [e2]
    congr 2
    congr 1
    by_cases h2 : c * 10 + d < 18446744073709551616
    · have : (c * 10 + d) / 18446744073709551616 = 0 := Nat.div_eq_of_lt h2
      simp [h2, this]
    · have : ¬ (c * 10 + d) / 18446744073709551616 = 0 := by omega
      have e : ((((c * 10 + d) / 18446744073709551616 : Nat) : Int) == 0) = false := by simp; omega
      rw [e]; simp [h2]
  · have e1 : ((((c * 10 / 18446744073709551616 : Nat) : Int)) == 0) = false := by simp; omega
    rw [e1, cond_false]
    have : ¬ c * 10 + d < 18446744073709551616 := by omega
    simp only [this, decide_false]
    congr 2
    omega
theorem strip_norm (n : Nat) (X : Type) (k0 : Bool → Int → Int → Bool → Int → Int → Option X) (neg b : Bool) (x y : Int) (c0 : Nat) (h0 : c0 % 10 ≠ 0) : ∀ (z m : Nat) (e : Int), c0 * 10 ^ z < two64 → -9223372036854775808 ≤ e → e + z ≤ 9223372036854775807 → z < m →
    ∃ j, j ≤ z ∧ F.dec_Normal.L3 n k0 m neg ((c0 * 10 ^ z : Nat) : Int) e b x y = k0 neg ((c0 * 10 ^ j : Nat) : Int) (e + z - j) b x y ∧ (j = 0 ∨ 18 ≤ e + z - j) ∧ (e + z - j ≤ 18 ∨ j = z) := by
  intro z
  induction z with
  | zero =>
    intro m e hc he1 he2 hm
    obtain ⟨m, rfl⟩ : ∃ q, m = q + 1 := ⟨m - 1, by omega⟩
    refine ⟨0, Nat.le_refl _, ?_, Or.inl rfl, Or.inr rfl⟩
    show F.dec_Normal.L3.step n _ k0 _ _ _ _ _ _ = _
    unfold F.dec_Normal.L3.step
    have e1 : ((((c0 * 10 ^ 0 : Nat) : Int).tmod 10) == 0) = false := by
      rw [Nat.pow_zero, Nat.mul_one]
      have : ¬ ((c0 : Int).tmod 10) = 0 := by
        rw [show ((c0 : Int).tmod 10) = ((c0 % 10 : Nat) : Int) from rfl]; omega
      simpa using this
    rw [e1, cond_false]
    congr 1
    omega
  | succ z ih =>
    intro m e hc he1 he2 hm
    obtain ⟨m, rfl⟩ : ∃ q, m = q + 1 := ⟨m - 1, by omega⟩
    have hstep : F.dec_Normal.L3 n k0 (m + 1) neg ((c0 * 10 ^ (z + 1) : Nat) : Int) e b x y = F.dec_Normal.L3.step n (F.dec_Normal.L3 n k0 m) k0 neg ((c0 * 10 ^ (z + 1) : Nat) : Int) e b x y := rfl
    have hmul : c0 * 10 ^ (z + 1) = c0 * 10 ^ z * 10 := by rw [Nat.pow_succ, Nat.mul_assoc]
    have e1 : ((((c0 * 10 ^ (z + 1) : Nat) : Int).tmod 10) == 0) = true := by
      have : ((c0 * 10 ^ (z + 1) : Nat) : Int).tmod 10 = 0 := by
        rw [show (((c0 * 10 ^ (z + 1) : Nat) : Int).tmod 10) = ((c0 * 10 ^ (z + 1) % 10 : Nat) : Int) from rfl]; omega
      simpa using this
    have e2 : ((c0 * 10 ^ (z + 1) : Nat) : Int).tdiv 10 = ((c0 * 10 ^ z : Nat) : Int) := by
      rw [show (((c0 * 10 ^ (z + 1) : Nat) : Int).tdiv 10) = ((c0 * 10 ^ (z + 1) / 10 : Nat) : Int) from rfl]; omega
    rw [hstep]
    unfold F.dec_Normal.L3.step
    rw [e1, cond_true]
    by_cases h18 : e < 18
    · rw [bif_pos h18, e2, IntWalk.u64_in _ (by rw [two64_eq] at hc; omega), wrap_in (by omega)]
      obtain ⟨j, j1, j2, j3, j4⟩ := ih m (e + 1) (by omega) (by omega) (by omega) (by omega)
      refine ⟨j, by omega, ?_, ?_, ?_⟩
      · rw [j2]
        congr 1
        omega
      · rcases j3 with j3 | j3
        · exact Or.inl j3
        · exact Or.inr (by omega)
      · rcases j4 with j4 | j4
        · exact Or.inl (by omega)
        · exact Or.inl (by omega)
    · rw [bif_neg h18]
      refine ⟨z + 1, Nat.le_refl _, ?_, Or.inr (by omega), Or.inr rfl⟩
      congr 1
      omega
theorem grow_norm (n : Nat) (X : Type) (k2 : Bool → Int → Int → Bool → Int → Int → Option X) (K : Int → Bool → Int → Int → Option X) (neg b : Bool) (x y : Int) : ∀ (m c d : Nat), 0 < c → c < two64 → two64 ≤ c * 10 ^ m → 18 + (d : Int) ≤ 9223372036854775807 →
    F.dec_Normal.L5 n k2 (fun q _ _ _ u v w => K q u v w) (m + 1) neg (c : Int) (18 + (d : Int)) b x y = if c * 10 ^ d < two64 then k2 neg ((c * 10 ^ d : Nat) : Int) 18 b x y else K 10 false 0 0 := by
  intro m
  induction m with
  | zero => intro c d h1 h2 h3; rw [Nat.pow_zero, Nat.mul_one] at h3; omega
  | succ m ih =>
    intro c d h1 h2 h3 h4
    have hstep : F.dec_Normal.L5 n k2 (fun q _ _ _ u v w => K q u v w) (m + 1 + 1) neg (c : Int) (18 + (d : Int)) b x y = F.dec_Normal.L5.step n (F.dec_Normal.L5 n k2 (fun q _ _ _ u v w => K q u v w) (m + 1)) k2 (fun q _ _ _ u v w => K q u v w) neg (c : Int) (18 + (d : Int)) b x y := rfl
    rw [hstep]
    unfold F.dec_Normal.L5.step
    cases d with
    | zero =>
      rw [bif_neg (by omega), Nat.pow_zero, Nat.mul_one, if_pos h2]
      rfl
    | succ d =>
      rw [bif_pos (by omega), show (0 : Int) = ((0 : Nat) : Int) from rfl, times_eq n c 0 h2 (by decide), some_bind']
      have hp : c * 10 ≤ c * 10 ^ (d + 1) := by
        rw [Nat.pow_succ, ← Nat.mul_assoc]
        have : 0 < 10 ^ d := Nat.pow_pos (by omega)
        have := Nat.le_mul_of_pos_right c this
        omega
      by_cases hf : c * 10 + 0 < two64
      · simp only [hf, decide_true, Bool.not_true, cond_false]
        rw [wrap_in (by omega), show (18 + ((d + 1 : Nat) : Int) - 1) = 18 + (d : Int) from by omega, Nat.mod_eq_of_lt hf]
        have := ih (c * 10 + 0) d (by omega) hf (by rw [Nat.pow_succ] at h3; rw [Nat.add_zero, Nat.mul_assoc, Nat.mul_comm 10]; exact h3) (by omega)
        rw [show ((0 : Nat) : Int) = (0 : Int) from rfl] at *
        rw [this, Nat.add_zero, Nat.mul_assoc, Nat.mul_comm 10, ← Nat.pow_succ]
      · have : ¬ c * 10 ^ (d + 1) < two64 := by omega
        simp only [hf, decide_false, Bool.not_false, cond_true]
        rw [if_neg this]
theorem normal_core (n : Nat) (hn : 100 ≤ n) (neg : Bool) (c0 z : Nat) (h0 : c0 % 10 ≠ 0) (hc : c0 * 10 ^ z < two64) (e : Int) (he : -9223372036854775808 ≤ e ∧ e ≤ 9223372036854775807) :
    F.dec_Normal n (neg, ((c0 * 10 ^ z : Nat) : Int), e, ()) = some (normR neg c0 (e + z)) := by
  have hz : z ≤ 20 := by
    refine Classical.byContradiction fun hh => ?_
    have h1 : 10 ^ 20 ≤ 10 ^ z := Nat.pow_le_pow_right (by omega) (by omega)
    have h2 := Nat.le_mul_of_pos_left (10 ^ z) (show 0 < c0 by omega)
    rw [two64_eq] at hc
    omega
  have hpos : 0 < c0 * 10 ^ z := Nat.mul_pos (by omega) (Nat.pow_pos (by omega))
  unfold F.dec_Normal
  have e0 : (((c0 * 10 ^ z : Nat) : Int) == 0) = false := by
    have : ¬ ((c0 * 10 ^ z : Nat) : Int) = 0 := by omega
    simpa using this
  simp only [e0, cond_false]
  by_cases hbig : 9223372036854775807 < e + z
  ·
    have h18 : ¬ e < 18 := by omega
    obtain ⟨m, rfl⟩ : ∃ q, n = q + 1 := ⟨n - 1, by omega⟩
    have hs : ∀ (k0 : Bool → Int → Int → Bool → Int → Int → Option DecR), F.dec_Normal.L3 (m + 1) k0 (m + 1) neg ((c0 * 10 ^ z : Nat) : Int) e false 0 0 = k0 neg ((c0 * 10 ^ z : Nat) : Int) e false 0 0 := by
      intro k0
      show F.dec_Normal.L3.step (m + 1) (F.dec_Normal.L3 (m + 1) k0 m) k0 _ _ _ _ _ _ = _
      unfold F.dec_Normal.L3.step
      rw [bif_neg h18]
      cases (((c0 * 10 ^ z : Nat) : Int).tmod 10 == 0) <;> rfl
    rw [hs]
    obtain ⟨d, hd⟩ : ∃ d : Nat, e = 18 + (d : Int) := ⟨(e - 18).toNat, by omega⟩
    have hfuel : two64 ≤ c0 * 10 ^ z * 10 ^ m := by
      have h1 : 10 ^ 20 ≤ 10 ^ m := Nat.pow_le_pow_right (by omega) (by omega)
      have h2 := Nat.le_mul_of_pos_left (10 ^ m) hpos
      rw [two64_eq]
      omega
    rw [hd, grow_norm (m + 1) _ _ (fun q u v w => some ((u, v, w, ()), q, ())) neg false 0 0 m _ d hpos hc hfuel (by omega)]
    have hnot : ∀ w, 20 ≤ w → ¬ c0 * 10 ^ w < two64 := by
      intro w hw
      have h1 : 10 ^ 20 ≤ 10 ^ w := Nat.pow_le_pow_right (by omega) hw
      have h2 := Nat.le_mul_of_pos_left (10 ^ w) (show 0 < c0 by omega)
      rw [two64_eq]
      omega
    unfold normR
    rw [if_neg (show ¬ 18 + (d : Int) + z < -18 by omega), if_neg (by rw [Nat.mul_assoc, ← Nat.pow_add]; exact hnot _ (by omega)), if_neg (hnot _ (by omega))]
  · obtain ⟨j, j1, j2, j3, j4⟩ := strip_norm n DecR (fun e1_b0_0 e1_b0_1 e1_b0_2 e1_b1_0 e1_b1_1 e1_b1_2 =>
        F.dec_Normal.L5 n
          (fun e3_b0_0 e3_b0_1 e3_b0_2 e3_b1_0 e3_b1_1 e3_b1_2 =>
            bif decide (e3_b0_2 < (-18 : Int)) then
              some (((false, (0 : Int), (0 : Int), ()), (10 : Int), ()))
            else
              some (((e3_b0_0, e3_b0_1, e3_b0_2, ()), (0 : Int), ())))
          (fun e4_3 e4_b0_0 e4_b0_1 e4_b0_2 e4_b1_0 e4_b1_1 e4_b1_2 =>
            some (((e4_b1_0, e4_b1_1, e4_b1_2, ()), e4_3, ()))) n e1_b0_0 e1_b0_1 e1_b0_2 e1_b1_0 e1_b1_1 e1_b1_2) neg false 0 0 c0 h0 z n e hc he.1 (by omega) (by omega)
    refine j2.trans ?_
    have hcj : c0 * 10 ^ j < two64 := by
      have h1 : 10 ^ j ≤ 10 ^ z := Nat.pow_le_pow_right (by omega) j1
      have := Nat.mul_le_mul_left c0 h1
      omega
    have hposj : 0 < c0 * 10 ^ j := Nat.mul_pos (by omega) (Nat.pow_pos (by omega))
    obtain ⟨m, rfl⟩ : ∃ q, n = q + 1 := ⟨n - 1, by omega⟩
    by_cases hE : 18 ≤ e + z - j
    · obtain ⟨d, hd⟩ : ∃ d : Nat, e + z - j = 18 + (d : Int) := ⟨(e + z - j - 18).toNat, by omega⟩
      have hfuel : two64 ≤ c0 * 10 ^ j * 10 ^ m := by
        have h1 : 10 ^ 20 ≤ 10 ^ m := Nat.pow_le_pow_right (by omega) (by omega)
        have h2 := Nat.le_mul_of_pos_left (10 ^ m) hposj
        rw [two64_eq]
        omega
      show F.dec_Normal.L5 (m + 1) _ _ (m + 1) neg _ (e + z - j) false 0 0 = _
      rw [hd, grow_norm (m + 1) _ _ (fun q u v w => some ((u, v, w, ()), q, ())) neg false 0 0 m _ d hposj hcj hfuel (by omega)]
      unfold normR
      rw [if_neg (show ¬ e + z < -18 by omega), Nat.mul_assoc, ← Nat.pow_add, show j + d = (e + z - 18).toNat from by omega]
      by_cases hf : c0 * 10 ^ (e + z - 18).toNat < two64
      · rw [if_pos hf, if_pos hf, bif_neg (by omega)]
        congr 3
        by_cases hh : e + z ≤ 18
        · rw [if_pos hh, show e + (z : Int) = 18 from by omega]
        · rw [if_neg hh]
      · rw [if_neg hf, if_neg hf]
    · have hj0 : j = 0 := by omega
      subst hj0
      have hlow : ∀ (k2 : Bool → Int → Int → Bool → Int → Int → Option DecR) (kr : Int → Bool → Int → Int → Bool → Int → Int → Option DecR) (c : Int) (E : Int), ¬ E > 18 → F.dec_Normal.L5 (m + 1) k2 kr (m + 1) neg c E false 0 0 = k2 neg c E false 0 0 := by
        intro k2 kr c E hE
        show F.dec_Normal.L5.step (m + 1) (F.dec_Normal.L5 (m + 1) k2 kr m) k2 kr neg c E false 0 0 = _
        unfold F.dec_Normal.L5.step
        rw [bif_neg hE]
      rw [hlow _ _ _ _ (by omega)]
      unfold normR
      rw [Nat.pow_zero, Nat.mul_one, show (e + (z : Int) - 18).toNat = 0 from by omega, Nat.pow_zero, Nat.mul_one, show (e + (z : Int) - ((0 : Nat) : Int)) = e + z from by omega]
      by_cases h18 : e + z < -18
      · rw [bif_pos h18, if_pos h18]
      · rw [bif_neg h18, if_neg h18, if_pos (by rw [Nat.pow_zero, Nat.mul_one] at hcj; exact hcj), if_pos (by omega)]
theorem normal_eq (n : Nat) (hn : 100 ≤ n) (neg : Bool) (c : Nat) (hc : c < two64) (e : Int) (he : -9223372036854775808 ≤ e ∧ e ≤ 9223372036854775807) : F.dec_Normal n (neg, (c : Int), e, ()) = some (valR neg (Lib.decDigits c) e) := by
  by_cases h : c = 0
  · subst h
    unfold valR
    rw [if_pos (dd_val 0)]
    rfl
  · obtain ⟨c0, z, h1, h2⟩ := ten_split c (by omega)
    rw [valR_core (dd_digs c) h2 (by rw [dd_val]; exact h1)]
    rw [h1] at hc ⊢
    exact normal_core n hn neg c0 z h2 hc e he
end Go.AM
set_option linter.unusedVariables false
set_option linter.unusedSimpArgs false
namespace Go.AM
def lz (d : List UInt8) : List UInt8 := d.dropWhile (· == 48)
theorem lz_rep (d : List UInt8) : d = List.replicate (d.length - (lz d).length) 48 ++ lz d := by
  induction d with
  | nil => rfl
  | cons b d ih =>
    unfold lz at ih ⊢
    by_cases h : b = 48
    · subst h
      have e : ((48 : UInt8) :: d).dropWhile (· == 48) = d.dropWhile (· == 48) := by simp [List.dropWhile_cons]
      have hl : (d.dropWhile (· == 48)).length ≤ d.length := (List.dropWhile_sublist _).length_le
      rw [e, List.length_cons, show d.length + 1 - (d.dropWhile (· == 48)).length = (d.length - (d.dropWhile (· == 48)).length) + 1 from by omega, List.replicate_succ, List.cons_append, ← ih]
    · have e : (b :: d).dropWhile (· == 48) = b :: d := by simp [List.dropWhile_cons, h]
      rw [e]
      simp
theorem lz_head {d : List UInt8} {x : UInt8} (h : (lz d).head? = some x) : x ≠ 48 := by
  have := List.head?_dropWhile_not (p := fun b : UInt8 => b == 48) (l := d)
  unfold lz at h
  rw [h] at this
  simpa using this
theorem lz_val (d : List UInt8) : val (lz d) = val d := by
  conv => rhs; rw [lz_rep d]
  rw [val_zeros_left]
theorem lz_digs {d : List UInt8} (h : Digs d) : Digs (lz d) := by
  rw [lz_rep d, digs_append] at h
  exact h.2
theorem lz_le (d : List UInt8) : (lz d).length ≤ d.length := (List.dropWhile_sublist _).length_le
theorem u8_48 (x : UInt8) : ((x.toNat : Int) == 48) = decide (x = 48) := by
  by_cases h : x = 48
  · subst h; rfl
  · have : ¬ (x.toNat : Int) = 48 := fun hh => h (u8_ext (by simp; omega))
    rw [beq_eq_false_iff_ne.2 this, decide_eq_false h]
theorem last_rep (a : List UInt8) (j : Nat) : idx (a ++ List.replicate (j + 1) (48 : UInt8)) (((a ++ List.replicate (j + 1) (48 : UInt8)).length : Int) - 1) = some 48 ∧ sub (a ++ List.replicate (j + 1) (48 : UInt8)) 0 (((a ++ List.replicate (j + 1) (48 : UInt8)).length : Int) - 1) = some (a ++ List.replicate j 48) := by
  rw [List.replicate_succ', ← List.append_assoc]
  have hlen : (a ++ List.replicate j (48 : UInt8) ++ [48]).length = a.length + j + 1 := by simp; omega
  refine ⟨?_, ?_⟩
  · rw [idx_pred (by omega), ← List.getLast?_eq_getElem?]; simp
  · have := sub_nat (a ++ List.replicate j (48 : UInt8) ++ [48]) 0 (a.length + j) (by omega) (by rw [hlen]; omega)
    rw [hlen, show (((a.length + j + 1 : Nat) : Int) - 1) = ((a.length + j : Nat) : Int) from by omega]
    refine this.trans ?_
    rw [List.drop_zero, List.take_append_of_le_length (by simp), List.take_of_length_le (by simp)]
theorem last_not {a : List UInt8} (ha : a ≠ []) (hl : ∀ x, a.getLast? = some x → x ≠ 48) : ∃ x, idx a ((a.length : Int) - 1) = some x ∧ x ≠ 48 := by
  have hp : 0 < a.length := List.length_pos_iff.2 ha
  rw [idx_pred hp, ← List.getLast?_eq_getElem?]
  cases e : a.getLast? with
  | none => simp at e; exact absurd e ha
  | some x => exact ⟨x, rfl, hl x e⟩
theorem val_ge {d : List UInt8} (hd : Digs d) (hne : d ≠ []) (hh : ∀ x, d.head? = some x → x ≠ 48) : 10 ^ (d.length - 1) ≤ val d := by
  cases d with
  | nil => exact absurd rfl hne
  | cons b d =>
    obtain ⟨h1, h2⟩ := digs_cons.1 hd
    have h0 : dv b ≠ 0 := fun h0 => hh b rfl (dv_inj h1 (b := 48) rfl h0)
    rw [val_cons]
    have := Nat.le_mul_of_pos_left (10 ^ d.length) (show 0 < dv b by omega)
    simp
    omega
end Go.AM
set_option linter.unusedVariables false
set_option linter.unusedSimpArgs false
namespace Go.AM
def p0 (s : List UInt8) : Nat := if s.head? = some 45 then 1 else 0
end Go.AM
set_option linter.unusedVariables false
set_option linter.unusedSimpArgs false
namespace Go.AM
end Go.AM
set_option linter.unusedVariables false
set_option linter.unusedSimpArgs false
namespace Go.AM
end Go.AM
set_option linter.unusedVariables false
set_option linter.unusedSimpArgs false
namespace Go.AM
def checkR (neg : Bool) (c : Nat) (e : Int) : Int :=
  if c ≠ 0 ∧ (e < -18 ∨ e > 18) then 10 else if (valR neg (Lib.decDigits c) e).2.1 = 0 ∧ (valR neg (Lib.decDigits c) e).1 = (neg, (c : Int), e, ()) then 0 else 21
theorem decD_beq (a b : DecD) : ((a.1 == b.1) && ((a.2.1 == b.2.1) && (a.2.2.1 == b.2.2.1))) = decide (a = b) := by
  obtain ⟨a1, a2, a3, _⟩ := a
  obtain ⟨b1, b2, b3, _⟩ := b
  by_cases h : (((a1, a2, a3, ()) : DecD) = (b1, b2, b3, ()))
  · have : a1 = b1 ∧ a2 = b2 ∧ a3 = b3 := by simpa using h
    rw [decide_eq_true h]
    simp [this]
  · rw [decide_eq_false h]
    have : ¬ (a1 = b1 ∧ a2 = b2 ∧ a3 = b3) := fun hh => h (by simp [hh])
    simp only [Bool.and_eq_false_iff, beq_eq_false_iff_ne]
    by_cases g1 : a1 = b1
    · by_cases g2 : a2 = b2
      · exact Or.inr (Or.inr fun g3 => this ⟨g1, g2, g3⟩)
      · exact Or.inr (Or.inl g2)
    · exact Or.inl g1
theorem check_tail (neg : Bool) (c : Nat) (e : Int) (r : DecR) (hr : r = valR neg (Lib.decDigits c) e) :
    (bif !(r.2.1 == (0 : Int)) then some ((21 : Int)) else bif !((r.1.1 == neg) && ((r.1.2.1 == (c : Int)) && (r.1.2.2.1 == e))) then some ((21 : Int)) else some ((0 : Int)))
     = some (if (valR neg (Lib.decDigits c) e).2.1 = 0 ∧ (valR neg (Lib.decDigits c) e).1 = (neg, (c : Int), e, ()) then 0 else 21) := by
  subst hr
  have hb := decD_beq (valR neg (Lib.decDigits c) e).1 (neg, (c : Int), e, ())
  simp only at hb
  rw [hb]
  by_cases h1 : (valR neg (Lib.decDigits c) e).2.1 = 0
  · have e1 : ((valR neg (Lib.decDigits c) e).2.1 == 0) = true := by simp [h1]
    rw [e1]
    by_cases h2 : (valR neg (Lib.decDigits c) e).1 = (neg, (c : Int), e, ())
    · rw [decide_eq_true h2, if_pos ⟨h1, h2⟩]; rfl
    · rw [decide_eq_false h2, if_neg (fun h => h2 h.2)]; rfl
  · have e1 : ((valR neg (Lib.decDigits c) e).2.1 == 0) = false := by simpa using h1
    rw [e1, if_neg (fun h => h1 h.1)]; rfl
theorem check_eq (n : Nat) (hn : 100 ≤ n) (neg : Bool) (c : Nat) (hc : c < two64) (e : Int) (he : -9223372036854775808 ≤ e ∧ e ≤ 9223372036854775807) : F.dec_Check n (neg, (c : Int), e, ()) = some (checkR neg c e) := by
  unfold F.dec_Check checkR
  simp only [normal_eq n hn neg c hc e he, some_bind']
  have T := check_tail neg c e _ rfl
  by_cases h0 : c = 0
  · have e0 : (((c : Int)) == 0) = true := by simp [h0]
    rw [e0, if_neg (fun h => h.1 h0)]
    exact T
  · have e0 : (((c : Int)) == 0) = false := by simpa using h0
    rw [e0]
    simp only [Bool.not_false, cond_true]
    by_cases h1 : e < -18
    · rw [bif_pos h1, if_pos ⟨h0, Or.inl h1⟩]
    · rw [bif_neg h1]
      by_cases h2 : e > 18
      · rw [bif_pos h2, if_pos ⟨h0, Or.inr h2⟩]
      · rw [bif_neg h2, if_neg (by omega)]
        exact T
theorem dd_len64 {c : Nat} (hc : c < two64) : (Lib.decDigits c).length ≤ 20 := by rw [dd_length]; exact Lib.nDigits_le20 c hc
theorem check_zero {neg : Bool} {c : Nat} {e : Int} (h : checkR neg c e = 0) : valR neg (Lib.decDigits c) e = ((neg, (c : Int), e, ()), 0, ()) ∧ -18 ≤ e ∧ e ≤ 18 := by
  unfold checkR at h
  by_cases h1 : c ≠ 0 ∧ (e < -18 ∨ e > 18)
  · rw [if_pos h1] at h; cases h
  rw [if_neg h1] at h
  by_cases h2 : (valR neg (Lib.decDigits c) e).2.1 = 0 ∧ (valR neg (Lib.decDigits c) e).1 = (neg, (c : Int), e, ())
  · have h3 : valR neg (Lib.decDigits c) e = ((neg, (c : Int), e, ()), 0, ()) := by
      obtain ⟨a, b⟩ := h2
      generalize valR neg (Lib.decDigits c) e = r at a b ⊢
      obtain ⟨r1, r2, _⟩ := r
      simp only at a b
      rw [a, b]
    refine ⟨h3, ?_⟩
    by_cases h0 : c = 0
    · subst h0
      unfold valR at h3
      rw [if_pos (dd_val 0)] at h3
      have : (0 : Int) = e := congrArg (fun r : DecR => r.1.2.2.1) h3
      omega
    · omega
  · rw [if_neg h2] at h; cases h
def sgn (neg : Bool) : List UInt8 := if neg then [45] else []
def wideW (c : Nat) (e : Int) : List UInt8 := List.replicate (1 - e - (Lib.decDigits c).length).toNat 48 ++ Lib.decDigits c
def textD (neg : Bool) (c : Nat) (e : Int) : List UInt8 :=
  if 0 ≤ e then sgn neg ++ (Lib.decDigits c ++ List.replicate e.toNat 48)
  else sgn neg ++ ((wideW c e).take ((wideW c e).length - e.natAbs) ++ [46] ++ (wideW c e).drop ((wideW c e).length - e.natAbs))
theorem repeatL_one (k : Nat) : Lib.repeatL [48] k = List.replicate k 48 := by
  induction k with
  | zero => rfl
  | succ k ih => rw [Lib.repeatL, ih]; rfl
theorem repeat_eq (n : Nat) {k : Int} (h : 0 ≤ k ∧ k ≤ 100000) : O.repeat' n [48] k = some (List.replicate k.toNat 48) := by
  unfold O.repeat'
  have hb : (decide (0 ≤ k) && Nat.ble k.toNat big47 && Nat.ble (([48] : List UInt8).length * k.toNat) big47) = true := by
    rw [Bool.and_eq_true, Bool.and_eq_true, Nat.ble_eq, Nat.ble_eq]
    unfold big47
    simp only [List.length_cons, List.length_nil]
    refine ⟨⟨by simp; omega, by omega⟩, by omega⟩
  rw [hb, cond_true, repeatL_one]
theorem wideW_len (c : Nat) (hc : c < two64) (e : Int) (he : -18 ≤ e ∧ e < 0) : e.natAbs < (wideW c e).length ∧ (wideW c e).length ≤ 40 ∧ Digs (wideW c e) := by
  have := dd_len64 hc
  unfold wideW
  refine ⟨?_, ?_, digs_append.2 ⟨digs_rep _, dd_digs c⟩⟩
  · simp; omega
  · simp; omega
theorem text_dec (n : Nat) (hn : 200000 ≤ n) (neg : Bool) (c : Nat) (hc : c < two64) (e : Int) (he : -9223372036854775808 ≤ e ∧ e ≤ 9223372036854775807) : F.dec_Text n (neg, (c : Int), e, ()) = some (if checkR neg c e = 0 then (textD neg c e, 0, ()) else ([], checkR neg c e, ())) := by
  unfold F.dec_Text
  simp only [check_eq n (by omega) neg c hc e he, some_bind']
  by_cases h : checkR neg c e = 0
  · obtain ⟨h1, h2, h3⟩ := check_zero h
    have hl := dd_len64 hc
    rw [h, if_pos rfl]
    have e0 : (!((0 : Int) == 0)) = false := rfl
    rw [e0, cond_false]
    have hf : O.futoa n (c : Int) 10 = some (Lib.decDigits c) := by
      unfold O.futoa
      have : (decide ((0 : Int) ≤ (c : Int)) && decide ((c : Int) < 18446744073709551616) && decide ((10 : Int) = 10)) = true := by
        rw [two64_eq] at hc
        simp; omega
      rw [this]; rfl
    rw [hf, some_bind']
    unfold textD
    by_cases hE : 0 ≤ e
    · rw [bif_pos hE, if_pos hE, repeat_eq n (by omega), some_bind', bif_pos (by rw [strMax_eq]; simp; omega)]
      cases neg
      · rfl
      · rw [cond_true, bif_pos (by rw [strMax_eq]; simp; omega)]
        rfl
    · obtain ⟨w1, w2, w3⟩ := wideW_len c hc e (by omega)
      have hmax : (if (IntKind.wrap .i64 ((IntKind.wrap .i64 ((1 : Int) - e)) - ((Lib.decDigits c).length : Int))) > (0 : Int) then (IntKind.wrap .i64 ((IntKind.wrap .i64 ((1 : Int) - e)) - ((Lib.decDigits c).length : Int))) else (0 : Int)) = (((1 - e - (Lib.decDigits c).length).toNat : Nat) : Int) := by
        rw [wrap_in (x := (1 : Int) - e) (by omega), wrap_in (by omega)]
        split <;> omega
      have hwl : (List.replicate (1 - e - (Lib.decDigits c).length).toNat (48 : UInt8)).length + (Lib.decDigits c).length = (wideW c e).length := by unfold wideW; simp
      rw [bif_neg (by omega), if_neg hE, hmax, repeat_eq n (by omega), some_bind', Int.toNat_natCast, bif_pos (by rw [strMax_eq]; omega)]
      have hww : List.replicate (1 - e - (Lib.decDigits c).length).toNat (48 : UInt8) ++ Lib.decDigits c = wideW c e := rfl
      rw [hww]
      generalize wideW c e = w at w1 w2 w3
      have hat : IntKind.wrap .i64 ((w.length : Int) + e) = ((w.length - e.natAbs : Nat) : Int) := by rw [wrap_in (by omega)]; omega
      rw [hat]
      have s1 : sub w 0 ((w.length - e.natAbs : Nat) : Int) = some (w.take (w.length - e.natAbs)) := by
        have := sub_nat w 0 (w.length - e.natAbs) (by omega) (by omega)
        rw [List.drop_zero] at this
        exact this
      have s2 : sub w ((w.length - e.natAbs : Nat) : Int) (w.length : Int) = some (w.drop (w.length - e.natAbs)) := by
        have := sub_nat w (w.length - e.natAbs) w.length (by omega) (Nat.le_refl _)
        rw [List.take_length] at this
        exact this
      rw [s1, some_bind', bif_pos (by rw [strMax_eq]; simp; omega), s2, some_bind', bif_pos (by rw [strMax_eq]; simp; omega)]
      cases neg
      · rfl
      · rw [cond_true, bif_pos (by rw [strMax_eq]; simp; omega)]
        rfl
  · have e0 : (checkR neg c e == 0) = false := by simpa using h
    rw [e0, if_neg h]
    rfl
theorem text_len (neg : Bool) (c : Nat) (hc : c < two64) (e : Int) (he : -18 ≤ e ∧ e ≤ 18) : (textD neg c e).length ≤ 39 ∧ (0 ≤ e ∨ e < 0) := by
  have hl := dd_len64 hc
  have hs : (sgn neg).length ≤ 1 := by cases neg <;> decide
  refine ⟨?_, by omega⟩
  unfold textD
  by_cases h : 0 ≤ e
  · rw [if_pos h]; simp; omega
  · rw [if_neg h]
    obtain ⟨w1, w2, w3⟩ := wideW_len c hc e (by omega)
    have : (wideW c e).length ≤ 20 ∨ (wideW c e).length = (1 - e).toNat := by unfold wideW; simp; omega
    simp
    omega
end Go.AM
set_option linter.unusedVariables false
set_option linter.unusedSimpArgs false
namespace Go.AM
theorem bif_some {α : Type} (b : Bool) (u v : α) : (bif b then some u else some v) = some (bif b then u else v) := by cases b <;> rfl
def btw (x lo hi : Int) : Bool := decide (lo ≤ x) && decide (x ≤ hi)
def wordI (x : Int) : Bool := btw x 65 90 || (btw x 97 122 || (x == 95 || (x == 46 || (x == 45 || btw x 48 57))))
def cls (c : Int) (b : UInt8) : Bool :=
  bif c == 3 then btw b.toNat 33 126 && (!((b.toNat : Int) == 44) && !((b.toNat : Int) == 124))
  else bif c == 2 then ((b.toNat : Int) == 47) || wordI b.toNat
  else bif c == 1 then wordI b.toNat
  else (c == 4) && btw b.toNat 48 57
def may (c : Int) : Bool := decide (1 ≤ c) && decide (c ≤ 4)
theorem may_cls (n : Nat) (c : Int) : F.class_may n c = some (may c) := by
  unfold F.class_may may
  by_cases h : 1 ≤ c
  · rw [bif_pos (by omega)]; simp [h]
  · rw [bif_neg (by omega)]; simp [h]
theorem between_eq (n : Nat) (x lo hi : Int) : F.class_between n x lo hi = some (btw x lo hi) := by
  unfold F.class_between btw
  by_cases h : lo ≤ x
  · rw [bif_pos (by omega)]; simp [h]
  · rw [bif_neg (by omega)]; simp [h]
theorem is_eq (n : Nat) (c : Int) (b : UInt8) : F.class_Is n c (b.toNat) = some (cls c b) := by
  unfold F.class_Is cls wordI
  simp only [between_eq, some_bind', bif_some]
  congr 1
  cases c == 3 <;> cases c == 2 <;> cases c == 1 <;> cases c == 4 <;> generalize hx : (b.toNat : Int) = x <;> clear hx <;>
    (cases btw x 33 126 <;> cases x == 44 <;> cases btw x 65 90 <;> cases btw x 97 122 <;> cases x == 95 <;> cases x == 46 <;> cases x == 45 <;> cases x == 47 <;> rfl)
def badK (p : UInt8 → Bool) : Nat → List UInt8 → Int
  | _, [] => -1
  | k, b :: l => if p b then badK p (k + 1) l else (k : Int)
theorem badK_ge (p : UInt8 → Bool) (k : Nat) (l : List UInt8) : 0 ≤ badK p k l ↔ ¬ l.all p = true := by
  induction l generalizing k with
  | nil => simp [badK]
  | cons b l ih =>
    unfold badK
    by_cases h : p b = true
    · rw [if_pos h, ih]; simp [h]
    · rw [if_neg h]; simp [h]
theorem badK_neg (p : UInt8 → Bool) (k : Nat) (l : List UInt8) (h : l.all p = true) : badK p k l = -1 := by
  induction l generalizing k with
  | nil => rfl
  | cons b l ih =>
    simp only [List.all_cons, Bool.and_eq_true] at h
    unfold badK
    rw [if_pos h.1, ih _ h.2]
theorem bad_cls_loop (n : Nat) (X : Type) (k0 : Unit → Option X) (kr : Int → Int → Option X) (c : Int) (s : List UInt8) (hs : s.length < 4611686018427387904) : ∀ (r : List UInt8) (k m : Nat), s.drop k = r → r.length < m →
    F.class_Bad.L4 n k0 kr m c s (s.length : Int) (k : Int) = if 0 ≤ badK (cls c) k r then kr (badK (cls c) k r) 0 else k0 () := by
  intro r
  induction r with
  | nil =>
    intro k m hk hm
    have := drop_nil' hk
    cases m with
    | zero => simp at hm
    | succ m =>
      show F.class_Bad.L4.step n _ k0 kr c s _ k = _
      unfold F.class_Bad.L4.step
      rw [bif_neg (by omega)]
      rfl
  | cons x r ih =>
    intro k m hk hm
    obtain ⟨h1, h2, h3⟩ := drop_cons hk
    cases m with
    | zero => simp at hm
    | succ m =>
      show F.class_Bad.L4.step n (F.class_Bad.L4 n k0 kr m) k0 kr c s _ k = _
      unfold F.class_Bad.L4.step
      rw [bif_pos (by omega), idx_nat, h2, some_bind', is_eq, some_bind']
      unfold badK
      by_cases hx : cls c x = true
      · rw [hx, if_pos rfl, wrap_succ (by omega), ih (k + 1) m h3 (by simp at hm; omega)]
        rfl
      · have hx : cls c x = false := by simpa using hx
        rw [hx]
        have : ¬ (false = true) := by simp
        rw [if_neg this, if_pos (by omega)]
        rfl
theorem bad_cls (n : Nat) (c : Int) (s : List UInt8) (hs : s.length < 4611686018427387904) (hn : s.length < n) : F.class_Bad n c s = some (bif may c then (badK (cls c) 0 s, 0, ()) else (0, 1, ())) := by
  unfold F.class_Bad
  rw [may_cls, some_bind']
  cases hm : may c
  · rfl
  · simp only [Bool.not_true, cond_false]
    refine (bad_cls_loop n _ _ _ c s hs s 0 n rfl hn).trans ?_
    by_cases h : 0 ≤ badK (cls c) 0 s
    · rw [if_pos h]; rfl
    · rw [if_neg h]
      have : s.all (cls c) = true := Classical.byContradiction fun hh => h ((badK_ge _ _ _).2 hh)
      rw [badK_neg _ _ _ this]; rfl
def textF (c : Int) (s : List UInt8) (lo hi : Int) : Int × Int × Unit :=
  if may c = false ∨ lo < 0 ∨ hi < lo then (1, 0, ()) else if (s.length : Int) < lo then (13, (s.length : Int), ()) else if (s.length : Int) > hi then (12, hi, ())
  else if 0 ≤ badK (cls c) 0 s then (14, badK (cls c) 0 s, ()) else (0, 0, ())
theorem text_cls (n : Nat) (c : Int) (s : List UInt8) (lo hi : Int) (hs : s.length < 4611686018427387904) (hn : s.length < n) : F.class_Text n c s lo hi = some (textF c s lo hi) := by
  unfold F.class_Text textF
  rw [bad_cls n c s hs hn, some_bind']
  cases hm : may c
  · rw [if_pos (Or.inl rfl)]; rfl
  · simp only [cond_true]
    have e : (!((0 : Int) == 0)) = false := rfl
    rw [e, cond_false]
    by_cases h1 : lo < 0
    · rw [bif_pos h1, if_pos (Or.inr (Or.inl h1))]
    · rw [bif_neg h1]
      by_cases h2 : hi < lo
      · rw [bif_pos h2, if_pos (Or.inr (Or.inr h2))]
      · rw [bif_neg h2, if_neg (by simp [h1, h2])]
        by_cases h3 : (s.length : Int) < lo
        · rw [bif_pos h3, if_pos h3]
        · rw [bif_neg h3, if_neg h3]
          by_cases h4 : (s.length : Int) > hi
          · rw [bif_pos h4, if_pos h4]
          · rw [bif_neg h4, if_neg h4]
            by_cases h5 : 0 ≤ badK (cls c) 0 s
            · rw [bif_pos (by omega), if_pos h5]
            · rw [bif_neg (by omega), if_neg h5]
def bytesOf (c : Int) : List UInt8 :=
  bif c == 1 then [65, 66, 67, 68, 69, 70, 71, 72, 73, 74, 75, 76, 77, 78, 79, 80, 81, 82, 83, 84, 85, 86, 87, 88, 89, 90, 97, 98, 99, 100, 101, 102, 103, 104, 105, 106, 107, 108, 109, 110, 111, 112, 113, 114, 115, 116, 117, 118, 119, 120, 121, 122, 48, 49, 50, 51, 52, 53, 54, 55, 56, 57, 95, 46, 45]
  else bif c == 2 then [65, 66, 67, 68, 69, 70, 71, 72, 73, 74, 75, 76, 77, 78, 79, 80, 81, 82, 83, 84, 85, 86, 87, 88, 89, 90, 97, 98, 99, 100, 101, 102, 103, 104, 105, 106, 107, 108, 109, 110, 111, 112, 113, 114, 115, 116, 117, 118, 119, 120, 121, 122, 48, 49, 50, 51, 52, 53, 54, 55, 56, 57, 95, 46, 45, 47]
  else bif c == 3 then [65, 66, 67, 68, 69, 70, 71, 72, 73, 74, 75, 76, 77, 78, 79, 80, 81, 82, 83, 84, 85, 86, 87, 88, 89, 90, 97, 98, 99, 100, 101, 102, 103, 104, 105, 106, 107, 108, 109, 110, 111, 112, 113, 114, 115, 116, 117, 118, 119, 120, 121, 122, 48, 49, 50, 51, 52, 53, 54, 55, 56, 57, 95, 46, 45, 47, 33, 34, 35, 36, 37, 38, 39, 40, 41, 42, 43, 58, 59, 60, 61, 62, 63, 64, 91, 92, 93, 94, 96, 123, 125, 126]
  else bif c == 4 then [48, 49, 50, 51, 52, 53, 54, 55, 56, 57] else []
theorem bytes_ref (n : Nat) (c : Int) : F.ref04_Bytes n c = some (bytesOf c) := by
  unfold F.ref04_Bytes bytesOf
  rw [bif_pos (by decide), bif_pos (by decide), bif_pos (by decide), bif_pos (by decide)]
  cases c == 1 <;> cases c == 2 <;> cases c == 3 <;> cases c == 4 <;> rfl
theorem is_ref_loop (n : Nat) (X : Type) (k0 : Unit → Option X) (kr : Bool → Option X) (x : UInt8) (s : List UInt8) (hs : s.length < 4611686018427387904) : ∀ (r : List UInt8) (k m : Nat), s.drop k = r → r.length < m →
    F.ref04_Is.L3 n k0 kr m (x.toNat : Int) s (k : Int) = if x ∈ r then kr true else k0 () := by
  intro r
  induction r with
  | nil =>
    intro k m hk hm
    have := drop_nil' hk
    cases m with
    | zero => simp at hm
    | succ m =>
      show F.ref04_Is.L3.step n _ k0 kr _ s k = _
      unfold F.ref04_Is.L3.step
      rw [bif_neg (by omega)]
      simp
  | cons y r ih =>
    intro k m hk hm
    obtain ⟨h1, h2, h3⟩ := drop_cons hk
    cases m with
    | zero => simp at hm
    | succ m =>
      show F.ref04_Is.L3.step n (F.ref04_Is.L3 n k0 kr m) k0 kr _ s k = _
      unfold F.ref04_Is.L3.step
      rw [bif_pos (by omega), idx_nat, h2, some_bind']
      by_cases hx : x = y
      · subst hx; simp
      · have : ¬ (y.toNat : Int) = (x.toNat : Int) := fun h => hx (u8_ext (by omega)).symm
        have e : ((y.toNat : Int) == (x.toNat : Int)) = false := by simpa using this
        rw [e, cond_false, wrap_succ (by omega), ih (k + 1) m h3 (by simp at hm; omega)]
        simp [hx]
theorem cls_mem_all : ∀ i : Fin 256, (UInt8.ofNat i.val ∈ bytesOf 1 ↔ cls 1 (UInt8.ofNat i.val) = true) ∧ (UInt8.ofNat i.val ∈ bytesOf 2 ↔ cls 2 (UInt8.ofNat i.val) = true) ∧ (UInt8.ofNat i.val ∈ bytesOf 3 ↔ cls 3 (UInt8.ofNat i.val) = true) ∧ (UInt8.ofNat i.val ∈ bytesOf 4 ↔ cls 4 (UInt8.ofNat i.val) = true) := by decide +kernel
theorem cls_mem (c : Int) (b : UInt8) : b ∈ bytesOf c ↔ cls c b = true := by
  have h := cls_mem_all ⟨b.toNat, b.toNat_lt⟩
  have e : UInt8.ofNat b.toNat = b := by simp
  simp only [e] at h
  by_cases h1 : c = 1
  · subst h1; exact h.1
  by_cases h2 : c = 2
  · subst h2; exact h.2.1
  by_cases h3 : c = 3
  · subst h3; exact h.2.2.1
  by_cases h4 : c = 4
  · subst h4; exact h.2.2.2
  have b1 : (c == 1) = false := by simp [h1]
  have b2 : (c == 2) = false := by simp [h2]
  have b3 : (c == 3) = false := by simp [h3]
  have b4 : (c == 4) = false := by simp [h4]
  unfold bytesOf cls
  rw [b1, b2, b3, b4]
  simp
theorem is_ref (n : Nat) (hn : 100 ≤ n) (c : Int) (x : UInt8) : F.ref04_Is n c (x.toNat : Int) = some (cls c x) := by
  unfold F.ref04_Is
  rw [bytes_ref, some_bind']
  have hl : (bytesOf c).length < 100 := by
    unfold bytesOf
    cases c == 1 <;> cases c == 2 <;> cases c == 3 <;> cases c == 4 <;> decide
  refine (is_ref_loop n _ _ _ x (bytesOf c) (by omega) (bytesOf c) 0 n rfl (by omega)).trans ?_
  by_cases h : x ∈ bytesOf c
  · rw [if_pos h, (cls_mem c x).1 h]
  · rw [if_neg h]
    cases e : cls c x
    · rfl
    · exact absurd ((cls_mem c x).2 e) h
theorem bad_ref_loop (n : Nat) (hn : 100 ≤ n) (X : Type) (k0 : Unit → Option X) (kr : Int → Option X) (c : Int) (s : List UInt8) (hs : s.length < 4611686018427387904) : ∀ (r : List UInt8) (k m : Nat), s.drop k = r → r.length < m →
    F.ref04_Bad.L2 n k0 kr m c s (k : Int) = if 0 ≤ badK (cls c) k r then kr (badK (cls c) k r) else k0 () := by
  intro r
  induction r with
  | nil =>
    intro k m hk hm
    have := drop_nil' hk
    cases m with
    | zero => simp at hm
    | succ m =>
      show F.ref04_Bad.L2.step n _ k0 kr c s k = _
      unfold F.ref04_Bad.L2.step
      rw [bif_neg (by omega)]
      rfl
  | cons x r ih =>
    intro k m hk hm
    obtain ⟨h1, h2, h3⟩ := drop_cons hk
    cases m with
    | zero => simp at hm
    | succ m =>
      show F.ref04_Bad.L2.step n (F.ref04_Bad.L2 n k0 kr m) k0 kr c s k = _
      unfold F.ref04_Bad.L2.step
      rw [bif_pos (by omega), idx_nat, h2, some_bind', is_ref n hn, some_bind']
      unfold badK
      by_cases hx : cls c x = true
      · rw [hx, if_pos rfl, wrap_succ (by omega), ih (k + 1) m h3 (by simp at hm; omega)]
        rfl
      · have hx : cls c x = false := by simpa using hx
        rw [hx]
        have : ¬ (false = true) := by simp
        rw [if_neg this, if_pos (by omega)]
        rfl
theorem bad_ref (n : Nat) (h100 : 100 ≤ n) (c : Int) (s : List UInt8) (hs : s.length < 4611686018427387904) (hn : s.length < n) : F.ref04_Bad n c s = some (badK (cls c) 0 s) := by
  unfold F.ref04_Bad
  refine (bad_ref_loop n h100 _ _ _ c s hs s 0 n rfl hn).trans ?_
  by_cases h : 0 ≤ badK (cls c) 0 s
  · rw [if_pos h]
  · rw [if_neg h]
    have : s.all (cls c) = true := Classical.byContradiction fun hh => h ((badK_ge _ _ _).2 hh)
    rw [badK_neg _ _ _ this]
end Go.AM
set_option linter.unusedVariables false
set_option linter.unusedSimpArgs false
namespace Go.AM
theorem textF_at {c : Int} {s : List UInt8} {lo hi : Int} (h : (textF c s lo hi).1 = 0) : (textF c s lo hi).2.1 = 0 := by
  unfold textF at h ⊢
  by_cases h1 : may c = false ∨ lo < 0 ∨ hi < lo
  · rw [if_pos h1]
  rw [if_neg h1] at h ⊢
  by_cases h2 : (s.length : Int) < lo
  · rw [if_pos h2] at h; cases h
  rw [if_neg h2] at h ⊢
  by_cases h3 : (s.length : Int) > hi
  · rw [if_pos h3] at h; cases h
  rw [if_neg h3] at h ⊢
  by_cases h4 : 0 ≤ badK (cls c) 0 s
  · rw [if_pos h4] at h; cases h
  rw [if_neg h4]
abbrev MetD := List UInt8 × Int × List (Bool × Int × Int) × Int × List (List UInt8 × List UInt8) × Int × Unit
end Go.AM
set_option linter.unusedVariables false
set_option linter.unusedSimpArgs false
namespace Go.AM
theorem digits03_go (n : Nat) : ∀ (m u : Nat), u < 18446744073709551616 → Lib.nDigits u ≤ m → F.ref03_Digits.go n m (u : Int) = some (Lib.decDigits u) := by
  intro m
  induction m with
  | zero =>
    intro u _ h
    have := Lib.nDigits_pos u
    omega
  | succ m ih =>
    intro u hu h
    have one : ∀ d : Nat, d < 10 → sub ([48, 49, 50, 51, 52, 53, 54, 55, 56, 57] : List UInt8) (d : Int) ((d + 1 : Nat) : Int) = some [UInt8.ofNat (48 + d)] := by
      intro d hd
      rw [sub_nat _ _ _ (by omega) (by simp; omega)]
      have := (by decide : ∀ d : Fin 10, (([48, 49, 50, 51, 52, 53, 54, 55, 56, 57] : List UInt8).take (d.val + 1)).drop d.val = [UInt8.ofNat (48 + d.val)]) ⟨d, hd⟩
      rw [this]
    show (bif decide ((u : Int) < 10) then _ else _) = _
    by_cases h1 : u < 10
    · rw [bif_pos (by omega), show IntKind.wrap .u64 ((u : Int) + 1) = ((u + 1 : Nat) : Int) from by rw [IntWalk.u64_in _ (by omega)]; omega, one u h1, some_bind', dd_small h1]
    · rw [bif_neg (by omega)]
      have e1 : (u : Int).tdiv 10 = ((u / 10 : Nat) : Int) := rfl
      have e2 : (u : Int).tmod 10 = ((u % 10 : Nat) : Int) := rfl
      have hN := Lib.nDigits_big h1
      rw [e1, e2, IntWalk.u64_in _ (by omega), ih (u / 10) (by omega) (by omega), some_bind', show IntKind.wrap .u64 (((u % 10 : Nat) : Int) + 1) = ((u % 10 + 1 : Nat) : Int) from by rw [IntWalk.u64_in _ (by omega)]; omega, one (u % 10) (by omega), some_bind', dd_big h1, bif_pos]
      have := Lib.nDigits_le20 (u / 10) (by omega)
      rw [dd_length, strMax_eq]
      simp; omega
theorem digits03 (n : Nat) (hn : 20 ≤ n) (u : Nat) (hu : u < two64) : F.ref03_Digits n (u : Int) = some (Lib.decDigits u) := by
  unfold F.ref03_Digits
  exact digits03_go n n u hu (Nat.le_trans (Lib.nDigits_le20 u hu) hn)
theorem lead_loop (n : Nat) (X : Type) (k0 : Bool → (List UInt8) → Int → Bool → Int → Int → Option X) (neg b : Bool) (e x y : Int) : ∀ (d : List UInt8) (m : Nat), d.length < m → d.length < 4611686018427387904 → F.ref03_Make.L1 n k0 m neg d e b x y = k0 neg (lz d) e b x y := by
  intro d
  induction d with
  | nil =>
    intro m hm _
    obtain ⟨m, rfl⟩ : ∃ q, m = q + 1 := ⟨m - 1, by omega⟩
    rfl
  | cons c d ih =>
    intro m hm hl
    obtain ⟨m, rfl⟩ : ∃ q, m = q + 1 := ⟨m - 1, by omega⟩
    show F.ref03_Make.L1.step n (F.ref03_Make.L1 n k0 m) k0 neg (c :: d) e b x y = _
    unfold F.ref03_Make.L1.step
    have ei : idx (c :: d) (0 : Int) = some c := rfl
    rw [bif_pos (by simp), ei, some_bind', u8_48]
    have hsub : sub (c :: d) 1 (((c :: d).length : Nat) : Int) = some d := by
      have := sub_nat (c :: d) 1 (c :: d).length (by simp) (by simp)
      rw [List.take_length] at this
      exact this
    by_cases h : c = 48
    · subst h
      rw [decide_eq_true rfl, cond_true, hsub, some_bind', ih m (by simp at hm; omega) (by simp at hl; omega)]
      congr 1
    · rw [decide_eq_false h, cond_false]
      unfold lz
      have e' : (c :: d).dropWhile (· == 48) = c :: d := by simp [List.dropWhile_cons, h]
      rw [e']
theorem trail_loop (n : Nat) (X : Type) (k2 : Bool → (List UInt8) → Int → Bool → Int → Int → Option X) (neg b : Bool) (x y : Int) (a : List UInt8) (ha : a ≠ []) (hl : ∀ x, a.getLast? = some x → x ≠ 48) (hal : a.length ≤ 100000) : ∀ (z m : Nat) (e : Int), z < m → z ≤ 100000 → -2000000 ≤ e → e ≤ 2000 →
    ∃ j, j ≤ z ∧ F.ref03_Make.L7 n k2 m neg (a ++ List.replicate z 48) e b x y = k2 neg (a ++ List.replicate j 48) (e + z - j) b x y ∧ (j = 0 ∨ 18 ≤ e + z - j) ∧ (e + z - j ≤ 18 ∨ j = z) := by
  intro z
  induction z with
  | zero =>
    intro m e hm hz he1 he2
    obtain ⟨m, rfl⟩ : ∃ q, m = q + 1 := ⟨m - 1, by omega⟩
    refine ⟨0, Nat.le_refl _, ?_, Or.inl rfl, Or.inr rfl⟩
    show F.ref03_Make.L7.step n _ k2 _ _ _ _ _ _ = _
    unfold F.ref03_Make.L7.step
    obtain ⟨c, c1, c2⟩ := last_not ha hl
    have hp : 0 < a.length := List.length_pos_iff.2 ha
    have hw : IntKind.wrap .i64 ((a.length : Int) - 1) = (a.length : Int) - 1 := wrap_in (by omega)
    rw [List.replicate_zero, List.append_nil, hw, c1, some_bind', u8_48, decide_eq_false c2, cond_false, show e + ((0 : Nat) : Int) - ((0 : Nat) : Int) = e from by omega]
    cases decide (e < 18) <;> rfl
  | succ z ih =>
    intro m e hm hz he1 he2
    obtain ⟨m, rfl⟩ : ∃ q, m = q + 1 := ⟨m - 1, by omega⟩
    have hstep : F.ref03_Make.L7 n k2 (m + 1) neg (a ++ List.replicate (z + 1) 48) e b x y = F.ref03_Make.L7.step n (F.ref03_Make.L7 n k2 m) k2 neg (a ++ List.replicate (z + 1) 48) e b x y := rfl
    rw [hstep]
    unfold F.ref03_Make.L7.step
    by_cases h18 : e < 18
    · obtain ⟨l1, l2⟩ := last_rep a z
      have hlen : (a ++ List.replicate (z + 1) (48 : UInt8)).length = a.length + z + 1 := by simp; omega
      have hw : IntKind.wrap .i64 (((a ++ List.replicate (z + 1) (48 : UInt8)).length : Int) - 1) = ((a ++ List.replicate (z + 1) (48 : UInt8)).length : Int) - 1 := wrap_in (by omega)
      rw [bif_pos h18, hw, l1, some_bind', u8_48, decide_eq_true rfl, cond_true, l2, some_bind', wrap_in (by omega)]
      obtain ⟨j, j1, j2, j3, j4⟩ := ih m (e + 1) (by omega) (by omega) (by omega) (by omega)
      refine ⟨j, by omega, ?_, ?_, ?_⟩
      · rw [j2]
        congr 1
        omega
      · rcases j3 with j3 | j3
        · exact Or.inl j3
        · exact Or.inr (by omega)
      · exact Or.inl (by omega)
    · rw [bif_neg h18]
      refine ⟨z + 1, Nat.le_refl _, ?_, Or.inr (by omega), Or.inr rfl⟩
      congr 1
      omega
theorem pad_loop (n : Nat) (X : Type) (k4 : Bool → (List UInt8) → Int → Bool → Int → Int → Option X) (neg b : Bool) (x y : Int) : ∀ (d m : Nat) (a : List UInt8), d < m → a.length + d ≤ 1000000 → F.ref03_Make.L10 n k4 m neg a (18 + (d : Int)) b x y = k4 neg (a ++ List.replicate d 48) 18 b x y := by
  intro d
  induction d with
  | zero =>
    intro m a hm hl
    obtain ⟨m, rfl⟩ : ∃ q, m = q + 1 := ⟨m - 1, by omega⟩
    show F.ref03_Make.L10.step n _ k4 _ _ _ _ _ _ = _
    unfold F.ref03_Make.L10.step
    rw [bif_neg (by omega), List.replicate_zero, List.append_nil]
    rfl
  | succ d ih =>
    intro m a hm hl
    obtain ⟨m, rfl⟩ : ∃ q, m = q + 1 := ⟨m - 1, by omega⟩
    show F.ref03_Make.L10.step n (F.ref03_Make.L10 n k4 m) k4 _ _ _ _ _ _ = _
    unfold F.ref03_Make.L10.step
    rw [bif_pos (by omega), bif_pos (by rw [strMax_eq]; omega), wrap_in (by omega), show 18 + ((d + 1 : Nat) : Int) - 1 = 18 + (d : Int) from by omega, ih m _ (by omega) (by simp; omega), List.append_assoc, List.replicate_succ]
    rfl
theorem pad_no (n : Nat) (X : Type) (k4 : Bool → (List UInt8) → Int → Bool → Int → Int → Option X) (neg b : Bool) (x y : Int) (m : Nat) (hm : 0 < m) (a : List UInt8) (E : Int) (h : ¬ E > 18) : F.ref03_Make.L10 n k4 m neg a E b x y = k4 neg a E b x y := by
  obtain ⟨m, rfl⟩ : ∃ q, m = q + 1 := ⟨m - 1, by omega⟩
  show F.ref03_Make.L10.step n (F.ref03_Make.L10 n k4 m) k4 _ _ _ _ _ _ = _
  unfold F.ref03_Make.L10.step
  rw [bif_neg h]
theorem fits_eq (n : Nat) {d : List UInt8} (hd : Digs d) (hne : d ≠ []) (hh : ∀ x, d.head? = some x → x ≠ 48) : F.ref03_Fits n d = some (decide (val d < two64)) := by
  unfold F.ref03_Fits
  have hlt := val_lt hd
  have hge := val_ge hd hne hh
  have hp : 0 < d.length := List.length_pos_iff.2 hne
  rw [two64_eq]
  by_cases h1 : d.length < 20
  · have : 10 ^ d.length ≤ 10 ^ 19 := Nat.pow_le_pow_right (by omega) (by omega)
    have h2 : val d < 18446744073709551616 := by omega
    rw [bif_pos (by omega), decide_eq_true h2]
  rw [bif_neg (by omega)]
  by_cases h2 : d.length = 20
  · have e : ((d.length : Int) == 20) = true := by rw [h2]; rfl
    rw [e, cond_true]
    have hm : Digs [49, 56, 52, 52, 54, 55, 52, 52, 48, 55, 51, 55, 48, 57, 53, 53, 49, 54, 49, 53] := rfl
    have hv : val [49, 56, 52, 52, 54, 55, 52, 52, 48, 55, 51, 55, 48, 57, 53, 53, 49, 54, 49, 53] = 18446744073709551615 := rfl
    rw [less_val hd hm h2, hv]
    congr 1
    by_cases h3 : val d < 18446744073709551615
    · simp [h3]; omega
    · by_cases h4 : val d = 18446744073709551615
      · have : d = [49, 56, 52, 52, 54, 55, 52, 52, 48, 55, 51, 55, 48, 57, 53, 53, 49, 54, 49, 53] := val_inj hd hm h2 (h4.trans hv.symm)
        rw [decide_eq_false h3, this, beq_self_eq_true, hv]
        rfl
      · have hne' : ¬ d = [49, 56, 52, 52, 54, 55, 52, 52, 48, 55, 51, 55, 48, 57, 53, 53, 49, 54, 49, 53] := fun hh => h4 (by rw [hh]; exact hv)
        rw [decide_eq_false h3, beq_eq_false_iff_ne.2 hne', decide_eq_false (show ¬ val d < 18446744073709551616 by omega)]
        rfl
  · have e : ((d.length : Int) == 20) = false := by
      have : ¬ (d.length : Int) = 20 := by omega
      simpa using this
    have : 10 ^ 20 ≤ 10 ^ (d.length - 1) := Nat.pow_le_pow_right (by omega) (by omega)
    rw [e, cond_false, decide_eq_false (by omega)]
theorem value03_loop (n : Nat) (X : Type) (k0 : Int → Option X) (s : List UInt8) (hs : s.length < 4611686018427387904) (hv : val s < two64) : ∀ (r : List UInt8) (k m : Nat), s.drop k = r → r.length < m → Digs r →
    F.ref03_Value.L3 n k0 m s (val (s.take k) : Int) (k : Int) = k0 (val s) := by
  intro r
  induction r with
  | nil =>
    intro k m hk hm hd
    have hk := drop_nil' hk
    obtain ⟨m, rfl⟩ : ∃ q, m = q + 1 := ⟨m - 1, by omega⟩
    show F.ref03_Value.L3.step n _ k0 s _ k = _
    unfold F.ref03_Value.L3.step
    rw [bif_neg (by omega), List.take_of_length_le hk]
  | cons x r ih =>
    intro k m hk hm hd
    obtain ⟨h1, h2, h3⟩ := drop_cons hk
    obtain ⟨d1, d2⟩ := digs_cons.1 hd
    have hx := isDig_iff.1 d1
    obtain ⟨m, rfl⟩ : ∃ q, m = q + 1 := ⟨m - 1, by omega⟩
    show F.ref03_Value.L3.step n (F.ref03_Value.L3 n k0 m) k0 s _ k = _
    unfold F.ref03_Value.L3.step
    have htk : s.take (k + 1) = s.take k ++ [x] := by rw [List.take_add_one, h2]; rfl
    have hvk : val (s.take (k + 1)) = val (s.take k) * 10 + dv x := by rw [htk, val_snoc]
    have hsv : val (s.take (k + 1)) ≤ val s := by
      have e : s = s.take (k + 1) ++ s.drop (k + 1) := (List.take_append_drop _ _).symm
      have h5 : val s = val (s.take (k + 1)) * 10 ^ (s.drop (k + 1)).length + val (s.drop (k + 1)) := by
        conv => lhs; rw [e]
        rw [val_append]
      have := Nat.le_mul_of_pos_right (val (s.take (k + 1))) (Nat.pow_pos (n := (s.drop (k + 1)).length) (show 0 < 10 by omega))
      omega
    have hdl := dv_lt d1
    rw [two64_eq] at hv
    have hdx : IntKind.wrap .u64 (IntKind.wrap .u8 ((x.toNat : Int) - 48)) = (dv x : Int) := by
      have h8 : IntKind.wrap .u8 ((x.toNat : Int) - 48) = (x.toNat : Int) - 48 := IntWalk.u8_in _ (by omega)
      rw [h8, IntWalk.u64_in _ (by omega)]; unfold dv; omega
    rw [bif_pos (by omega), idx_nat, h2, some_bind', hdx, IntWalk.u64_in (10 * (val (s.take k) : Int)) (by omega), IntWalk.u64_in _ (by omega), wrap_succ (by omega), show 10 * (val (s.take k) : Int) + (dv x : Int) = (val (s.take (k + 1)) : Int) from by omega]
    exact ih (k + 1) m h3 (by simp at hm; omega) d2
theorem value03 (n : Nat) (s : List UInt8) (hs : s.length < 4611686018427387904) (hn : s.length < n) (hd : Digs s) (hv : val s < two64) : F.ref03_Value n s = some (val s : Int) :=
  value03_loop n _ _ s hs hv s 0 n rfl hn hd
theorem make_eq (n : Nat) (hn : 200000 ≤ n) (neg : Bool) (d : List UInt8) (hd : Digs d) (hl : d.length ≤ 10000) (e : Int) : F.ref03_Make n neg d e = some ((valR neg d e).1, (valR neg d e).2.1 == 0, ()) := by
  unfold F.ref03_Make
  rw [lead_loop n _ _ neg false e 0 0 d n (by omega) (by omega)]
  have hlz := lz_le d
  by_cases h0 : val d = 0
  · have : lz d = [] := by
      refine Classical.byContradiction fun hne => ?_
      have := val_ge (lz_digs hd) hne (fun x => lz_head)
      rw [lz_val, h0] at this
      have := Nat.pow_pos (n := (lz d).length - 1) (show 0 < 10 by omega)
      omega
    unfold valR
    rw [if_pos h0, this]
    rfl
  have hne : lz d ≠ [] := fun hh => by have := lz_val d; rw [hh] at this; exact h0 this.symm
  have e0 : (lz d == []) = false := by simpa using hne
  simp only [e0, cond_false]
  have hD := lz_digs hd
  have hv0 : val (lz d) ≠ 0 := by rw [lz_val]; exact h0
  have hcore := core_trz hD hv0
  have hvt := val_trz (lz d)
  generalize hzz : (lz d).length - (trz (lz d)).length = z at hvt
  have hR : valR neg d e = normR neg (val (trz (lz d))) (e + z) := valR_core hd hcore (by rw [← lz_val]; exact hvt) neg e
  rw [hR]
  have hc0 : 0 < val (trz (lz d)) := by omega
  have hnot : ∀ w, 20 ≤ w → ¬ val (trz (lz d)) * 10 ^ w < two64 := by
    intro w hw
    have h1 : 10 ^ 20 ≤ 10 ^ w := Nat.pow_le_pow_right (by omega) hw
    have h2 := Nat.le_mul_of_pos_left (10 ^ w) hc0
    rw [two64_eq]
    omega
  by_cases hbig : e > 1000
  · rw [bif_pos hbig]
    unfold normR
    rw [if_neg (by omega), if_neg (hnot _ (by omega))]
    rfl
  rw [bif_neg hbig]
  by_cases hlow : e < -1000000
  · rw [bif_pos hlow]
    unfold normR
    rw [if_pos (by omega)]
    rfl
  rw [bif_neg hlow]
  have hpad := trz_pad (lz d)
  rw [hzz] at hpad
  have hne' : trz (lz d) ≠ [] := fun hh => hv0 ((trz_nil hD).1 hh)
  have htl := trz_le (lz d)
  have hhead : ∀ (k : Nat) x, (trz (lz d) ++ List.replicate k 48).head? = some x → x ≠ 48 := by
    intro k x hx
    cases e : trz (lz d) with
    | nil => exact absurd e hne'
    | cons b r =>
      rw [e] at hx
      have hb : b = x := by simpa using hx
      refine lz_head (d := d) ?_
      rw [hpad, e, ← hb]; rfl
  have fin : ∀ (k : Nat) (E : Int), k ≤ 30000 →
      (bif decide (E < (-18 : Int)) then some (((false, (0 : Int), (0 : Int), ()), false, ()))
                else
                  (F.ref03_Fits n (trz (lz d) ++ List.replicate k 48)).bind fun y8 =>
                    bif !y8 then
                      some (((false, (0 : Int), (0 : Int), ()), false, ()))
                    else
                      (F.ref03_Value n (trz (lz d) ++ List.replicate k 48)).bind fun y9 =>
                        some (((neg, y9, E, ()), true, ())))
      = some (if E < -18 then ((false, (0 : Int), (0 : Int), ()), false, ()) else if val (trz (lz d)) * 10 ^ k < two64 then ((neg, ((val (trz (lz d)) * 10 ^ k : Nat) : Int), E, ()), true, ()) else ((false, (0 : Int), (0 : Int), ()), false, ())) := by
    intro k E hk
    by_cases hE : E < -18
    · rw [bif_pos hE, if_pos hE]
    · rw [bif_neg hE, if_neg hE]
      have hdk : Digs (trz (lz d) ++ List.replicate k 48) := digs_append.2 ⟨trz_digs hD, digs_rep _⟩
      have hlk : (trz (lz d) ++ List.replicate k (48 : UInt8)).length = (trz (lz d)).length + k := by simp
      rw [fits_eq n hdk (by simp [hne']) (hhead k), some_bind', val_zeros_right]
      by_cases hf : val (trz (lz d)) * 10 ^ k < two64
      · rw [decide_eq_true hf, if_pos hf, value03 n _ (by omega) (by omega) hdk (by rw [val_zeros_right]; exact hf), some_bind', val_zeros_right]
        rfl
      · rw [decide_eq_false hf, if_neg hf]; rfl
  obtain ⟨j, j1, j2, j3, j4⟩ := trail_loop n (DecD × Bool × Unit) (fun e6_0 e6_1 e6_2 e6_b0_0 e6_b0_1 e6_b0_2 =>
            F.ref03_Make.L10 n
              (fun e7_0 e7_1 e7_2 e7_b0_0 e7_b0_1 e7_b0_2 =>
                bif decide (e7_2 < (-18 : Int)) then
                  some (((false, (0 : Int), (0 : Int), ()), false, ()))
                else
                  (F.ref03_Fits n e7_1).bind fun y8 =>
                    bif !y8 then
                      some (((false, (0 : Int), (0 : Int), ()), false, ()))
                    else
                      (F.ref03_Value n e7_1).bind fun y9 =>
                        some (((e7_0, y9, e7_2, ()), true, ()))) n e6_0 e6_1 e6_2 e6_b0_0 e6_b0_1 e6_b0_2) neg false 0 0 (trz (lz d)) hne' (fun x => trz_last) (by omega) z n e (by omega) (by omega) (by omega) (by omega)
  rw [← hpad] at j2
  refine j2.trans ?_
  unfold normR
  by_cases hE : e + z - j > 18
  · obtain ⟨q, hq⟩ : ∃ q : Nat, e + z - j = 18 + (q : Int) := ⟨(e + z - j - 18).toNat, by omega⟩
    rw [hq, pad_loop n _ _ neg false 0 0 q n _ (by omega) (by simp; omega), List.append_assoc, List.replicate_append_replicate, fin (j + q) 18 (by omega), if_neg (by omega), if_neg (show ¬ e + (z : Int) < -18 by omega), show (e + z - 18).toNat = j + q from by omega]
    by_cases hf : val (trz (lz d)) * 10 ^ (j + q) < two64
    · rw [if_pos hf, if_pos hf, if_neg (by omega)]; rfl
    · rw [if_neg hf, if_neg hf]; rfl
  · rw [pad_no n _ _ neg false 0 0 n (by omega) _ _ hE, fin j _ (by omega)]
    by_cases h18 : e + z < -18
    · rw [if_pos (by omega), if_pos h18]; rfl
    · rw [if_neg (by omega), if_neg h18, show (e + z - 18).toNat = j from by omega]
      by_cases hf : val (trz (lz d)) * 10 ^ j < two64
      · rw [if_pos hf, if_pos hf]
        congr 4
        by_cases hh : e + z ≤ 18
        · rw [if_pos hh]
          have : j = 0 ∨ e + z = 18 := by omega
          congr 1
          omega
        · rw [if_neg hh]
          congr 1
          omega
      · rw [if_neg hf, if_neg hf]; rfl
end Go.AM
set_option linter.unusedVariables false
set_option linter.unusedSimpArgs false
namespace Go.AM
end Go.AM
set_option linter.unusedVariables false
set_option linter.unusedSimpArgs false
namespace Go.AM
abbrev DecL := Bool × Int × Int
abbrev TagL := List UInt8 × List UInt8
def DecLOK (d : DecL) : Prop := True ∧ (0 ≤ d.2.1 ∧ d.2.1 ≤ 18446744073709551615) ∧ -9223372036854775808 ≤ d.2.2 ∧ d.2.2 ≤ 9223372036854775807
def decC (d : DecL) : Int := checkR d.1 d.2.1.toNat d.2.2
theorem decL_nat {d : DecL} (h : DecLOK d) : ∃ (neg : Bool) (c : Nat) (e : Int), d = (neg, (c : Int), e) ∧ c < two64 ∧ -9223372036854775808 ≤ e ∧ e ≤ 9223372036854775807 := by
  obtain ⟨neg, c, e⟩ := d
  obtain ⟨_, ⟨h1, h2⟩, h3, h4⟩ := h
  simp only at h1 h2 h3 h4
  refine ⟨neg, c.toNat, e, ?_, ?_, h3, h4⟩
  · rw [show ((c.toNat : Nat) : Int) = c from by omega]
  · rw [two64_eq]; omega
theorem decC_chk (n : Nat) (hn : 100 ≤ n) {d : DecL} (h : DecLOK d) : F.dec_Check n (d.1, d.2.1, d.2.2, ()) = some (decC d) := by
  obtain ⟨neg, c, e, rfl, hc, he⟩ := decL_nat h
  exact check_eq n hn neg c hc e he
def nameOK (s : List UInt8) : Bool := (textF 1 s 1 200).1 == 0
def tagGood (t : TagL) : Bool := ((textF 2 t.1 1 64).1 == 0) && ((textF 3 t.2 0 100).1 == 0)
theorem textF_both (c : Int) (s : List UInt8) (lo hi : Int) : (((textF c s lo hi).1 == 0) && ((textF c s lo hi).2.1 == 0)) = ((textF c s lo hi).1 == 0) := by
  by_cases h : (textF c s lo hi).1 = 0
  · rw [h, textF_at h]; rfl
  · rw [beq_eq_false_iff_ne.2 h]; rfl
theorem text4_ref (n : Nat) (hn : 100 ≤ n) (c : Int) (s : List UInt8) (lo hi : Int) (hm : may c = true) (hlo : 0 ≤ lo) (hhi : lo ≤ hi) (hs : s.length < 4611686018427387904) (hl : s.length < n) : F.ref04_Text n c s lo hi = some (textF c s lo hi) := by
  unfold F.ref04_Text textF
  rw [bad_ref n hn c s hs hl, some_bind', if_neg (by simp [hm]; omega)]
  by_cases h3 : (s.length : Int) < lo
  · rw [bif_pos h3, if_pos h3]
  · rw [bif_neg h3, if_neg h3]
    by_cases h4 : (s.length : Int) > hi
    · rw [bif_pos h4, if_pos h4]
    · rw [bif_neg h4, if_neg h4]
      by_cases h5 : 0 ≤ badK (cls c) 0 s
      · rw [bif_pos (by omega), if_pos h5]
      · rw [bif_neg (by omega), if_neg h5]
def TagLOK (t : TagL) : Prop := t.1.length ≤ 10000 ∧ t.2.length ≤ 10000
theorem tag_chk (n : Nat) (hn : 200000 ≤ n) {t : TagL} (h : TagLOK t) : F.tag_Check n (t.1, t.2, ()) = some (bif tagGood t then 0 else 19) := by
  obtain ⟨h1, h2⟩ := h
  unfold F.tag_Check tagGood
  simp only [text_cls n 2 t.1 1 64 (by omega) (by omega), text_cls n 3 t.2 0 100 (by omega) (by omega), some_bind', textF_both]
  cases ((textF 2 t.1 1 64).1 == 0) <;> cases ((textF 3 t.2 0 100).1 == 0) <;> rfl
theorem tag_ref (n : Nat) (hn : 200000 ≤ n) {t : TagL} (h : TagLOK t) : F.ref06_Check n (t.1, t.2, ()) = some (bif tagGood t then 0 else 19) := by
  obtain ⟨h1, h2⟩ := h
  unfold F.ref06_Check F.ref06_Right tagGood
  simp only [text4_ref n (by omega) 2 t.1 1 64 rfl (by omega) (by omega) (by omega) (by omega), text4_ref n (by omega) 3 t.2 0 100 rfl (by omega) (by omega) (by omega) (by omega), some_bind', textF_both]
  cases ((textF 2 t.1 1 64).1 == 0) <;> cases ((textF 3 t.2 0 100).1 == 0) <;> rfl
def kindB (k : Int) : Bool := decide (1 ≤ k) && decide (k ≤ 5)
def valsB (vs : List DecL) : Bool := decide (1 ≤ vs.length) && (decide (vs.length ≤ 64) && vs.all fun d => decC d == 0)
def rateB (k r : Int) : Bool := decide (1 ≤ r) && (decide (r ≤ 1000000) && (!(k == 2) || r == 1000000))
def tagsB (ts : List TagL) : Bool := decide (ts.length ≤ 32) && ts.all tagGood
def timeB (t : Int) : Bool := decide (0 ≤ t) && decide (t ≤ 1099511627776)
def chkM (m : MetD) : Int :=
  bif !nameOK m.1 then 15 else bif !kindB m.2.1 then 16 else bif !valsB m.2.2.1 then 17 else bif !rateB m.2.1 m.2.2.2.1 then 18 else bif !tagsB m.2.2.2.2.1 then 19 else bif !timeB m.2.2.2.2.2.1 then 20 else 0
def MetOK (m : MetD) : Prop := m.1.length ≤ 10000 ∧ (m.2.2.1.length ≤ 10000 ∧ ∀ d ∈ m.2.2.1, DecLOK d) ∧ (m.2.2.2.2.1.length ≤ 10000 ∧ ∀ t ∈ m.2.2.2.2.1, TagLOK t)
theorem vals_loop (n : Nat) (hn : 200000 ≤ n) (k0 : List UInt8 → Int → List DecL → Int → List TagL → Int → Option Bool) (kr : Int → List UInt8 → Int → List DecL → Int → List TagL → Int → Option Bool) (h0 : ∀ a b c d e f, k0 a b c d e f = some true) (hr : ∀ i a b c d e f, 0 ≤ i → kr i a b c d e f = some false) (vs : List DecL) (hs : vs.length ≤ 10000) (hok : ∀ d ∈ vs, DecLOK d) (b0 : List UInt8) (b1 : Int) (b2 : List DecL) (b3 : Int) (b4 : List TagL) (b5 : Int) : ∀ (r : List DecL) (k m : Nat), vs.drop k = r → r.length < m →
    F.metric_look_values.L2_slices_IndexFunc_api_Dec_api_Dec n k0 kr m vs (vs.length : Int) (k : Int) b0 b1 b2 b3 b4 b5 = some (r.all fun d => decC d == 0) := by
  intro r
  induction r with
  | nil =>
    intro k m hk hm
    have := drop_nil' hk
    cases m with
    | zero => simp at hm
    | succ m =>
      show F.metric_look_values.L2_slices_IndexFunc_api_Dec_api_Dec.step n _ k0 kr vs _ _ _ _ _ _ _ _ = _
      unfold F.metric_look_values.L2_slices_IndexFunc_api_Dec_api_Dec.step
      rw [bif_neg (by omega), h0]
      rfl
  | cons x r ih =>
    intro k m hk hm
    obtain ⟨h1, h2, h3⟩ := drop_cons hk
    have hx : DecLOK x := hok x (List.mem_of_getElem? h2)
    cases m with
    | zero => simp at hm
    | succ m =>
      show F.metric_look_values.L2_slices_IndexFunc_api_Dec_api_Dec.step n (F.metric_look_values.L2_slices_IndexFunc_api_Dec_api_Dec n k0 kr m) k0 kr vs _ _ _ _ _ _ _ _ = _
      unfold F.metric_look_values.L2_slices_IndexFunc_api_Dec_api_Dec.step F.metric_look_values_1
      rw [bif_pos (by omega), idx_nat, h2]
      simp only [some_bind', decC_chk n (by omega) hx, List.all_cons]
      by_cases h : decC x = 0
      · rw [h, wrap_succ (by omega), ih (k + 1) m h3 (by simp at hm; omega)]; rfl
      · rw [beq_eq_false_iff_ne.2 h]
        simp [hr]
theorem tags_loop (n : Nat) (hn : 200000 ≤ n) (k0 : List UInt8 → Int → List DecL → Int → List TagL → Int → Option Bool) (kr : Int → List UInt8 → Int → List DecL → Int → List TagL → Int → Option Bool) (h0 : ∀ a b c d e f, k0 a b c d e f = some true) (hr : ∀ i a b c d e f, 0 ≤ i → kr i a b c d e f = some false) (vs : List TagL) (hs : vs.length ≤ 10000) (hok : ∀ d ∈ vs, TagLOK d) (b0 : List UInt8) (b1 : Int) (b2 : List DecL) (b3 : Int) (b4 : List TagL) (b5 : Int) : ∀ (r : List TagL) (k m : Nat), vs.drop k = r → r.length < m →
    F.metric_look_tags.L2_slices_IndexFunc_api_Tag_api_Tag n k0 kr m vs (vs.length : Int) (k : Int) b0 b1 b2 b3 b4 b5 = some (r.all tagGood) := by
  intro r
  induction r with
  | nil =>
    intro k m hk hm
    have := drop_nil' hk
    cases m with
    | zero => simp at hm
    | succ m =>
      show F.metric_look_tags.L2_slices_IndexFunc_api_Tag_api_Tag.step n _ k0 kr vs _ _ _ _ _ _ _ _ = _
      unfold F.metric_look_tags.L2_slices_IndexFunc_api_Tag_api_Tag.step
      rw [bif_neg (by omega), h0]
      rfl
  | cons x r ih =>
    intro k m hk hm
    obtain ⟨h1, h2, h3⟩ := drop_cons hk
    have hx : TagLOK x := hok x (List.mem_of_getElem? h2)
    cases m with
    | zero => simp at hm
    | succ m =>
      show F.metric_look_tags.L2_slices_IndexFunc_api_Tag_api_Tag.step n (F.metric_look_tags.L2_slices_IndexFunc_api_Tag_api_Tag n k0 kr m) k0 kr vs _ _ _ _ _ _ _ _ = _
      unfold F.metric_look_tags.L2_slices_IndexFunc_api_Tag_api_Tag.step F.metric_look_tags_1
      rw [bif_pos (by omega), idx_nat, h2]
      simp only [some_bind', tag_chk n hn hx, List.all_cons]
      cases h : tagGood x
      · simp [hr]
      · rw [wrap_succ (by omega), ih (k + 1) m h3 (by simp at hm; omega)]; rfl
theorem mbetween_eq (n : Nat) (x lo hi : Int) : F.metric_between n x lo hi = some (decide (lo ≤ x) && decide (x ≤ hi)) := by
  unfold F.metric_between
  by_cases h : lo ≤ x
  · rw [bif_pos (by omega), decide_eq_true h]; rfl
  · rw [bif_neg (by omega), decide_eq_false h]; rfl
theorem look_name (n : Nat) (m : MetD) (h : m.1.length ≤ 10000) (hn : 200000 ≤ n) : F.metric_look_name n m = some (nameOK m.1) := by
  unfold F.metric_look_name nameOK
  rw [text_cls n 1 m.1 1 200 (by omega) (by omega), some_bind', textF_both]
theorem look_kind (n : Nat) (m : MetD) : F.metric_look_kind n m = some (kindB m.2.1) := by
  unfold F.metric_look_kind kindB
  rw [mbetween_eq]; rfl
theorem look_values (n : Nat) (hn : 200000 ≤ n) (m : MetD) (hm : MetOK m) : F.metric_look_values n m = some (valsB m.2.2.1) := by
  unfold F.metric_look_values valsB
  have L := vals_loop n hn (fun _ _ _ _ _ _ => some true) (fun e _ _ _ _ _ _ => some (!(decide (e ≥ (0 : Int))))) (fun _ _ _ _ _ _ => rfl) (fun i _ _ _ _ _ _ h => by simp [h]) _ hm.2.1.1 hm.2.1.2 m.1 m.2.1 m.2.2.1 m.2.2.2.1 m.2.2.2.2.1 m.2.2.2.2.2.1 m.2.2.1 0 n rfl (by have := hm.2.1.1; omega)
  rw [show ((0 : Nat) : Int) = (0 : Int) from rfl] at L
  rw [mbetween_eq, some_bind', L]
  have e1 : decide ((1 : Int) ≤ (m.2.2.1.length : Int)) = decide (1 ≤ m.2.2.1.length) := by apply decide_eq_decide.2; omega
  have e2 : decide ((m.2.2.1.length : Int) ≤ 64) = decide (m.2.2.1.length ≤ 64) := by apply decide_eq_decide.2; omega
  rw [e1, e2]
  cases decide (1 ≤ m.2.2.1.length) <;> cases decide (m.2.2.1.length ≤ 64) <;> rfl
theorem look_rate (n : Nat) (m : MetD) : F.metric_look_rate n m = some (rateB m.2.1 m.2.2.2.1) := by
  unfold F.metric_look_rate rateB
  rw [mbetween_eq, some_bind']
  cases decide ((1 : Int) ≤ m.2.2.2.1) <;> cases decide (m.2.2.2.1 ≤ 1000000) <;> cases (m.2.1 == 2) <;> rfl
theorem look_tags (n : Nat) (hn : 200000 ≤ n) (m : MetD) (hm : MetOK m) : F.metric_look_tags n m = some (tagsB m.2.2.2.2.1) := by
  unfold F.metric_look_tags tagsB
  have L := tags_loop n hn (fun _ _ _ _ _ _ => some true) (fun e _ _ _ _ _ _ => some (!(decide (e ≥ (0 : Int))))) (fun _ _ _ _ _ _ => rfl) (fun i _ _ _ _ _ _ h => by simp [h]) _ hm.2.2.1 hm.2.2.2 m.1 m.2.1 m.2.2.1 m.2.2.2.1 m.2.2.2.2.1 m.2.2.2.2.2.1 m.2.2.2.2.1 0 n rfl (by have := hm.2.2.1; omega)
  rw [show ((0 : Nat) : Int) = (0 : Int) from rfl] at L
  rw [L]
  have e2 : decide ((m.2.2.2.2.1.length : Int) ≤ 32) = decide (m.2.2.2.2.1.length ≤ 32) := by apply decide_eq_decide.2; omega
  rw [e2]
  cases decide (m.2.2.2.2.1.length ≤ 32) <;> rfl
theorem look_time (n : Nat) (m : MetD) : F.metric_look_time n m = some (timeB m.2.2.2.2.2.1) := by
  unfold F.metric_look_time timeB
  rw [mbetween_eq]; rfl
theorem metcheck_eq (n : Nat) (hn : 200000 ≤ n) (m : MetD) (hm : MetOK m) : F.metric_Check n m = some (chkM m) := by
  unfold F.metric_Check
  obtain ⟨q, hq⟩ : ∃ q, n = q + 7 := ⟨n - 7, by omega⟩
  have l1 := look_name n m hm.1 hn
  have l2 := look_kind n m
  have l3 := look_values n hn m hm
  have l4 := look_rate n m
  have l5 := look_tags n hn m hm
  have l6 := look_time n m
  obtain ⟨nm, k, vs, r, ts, t, _⟩ := m
  simp only at l1 l2 l3 l4 l5 l6
  have key : ∀ (X : Type) (k0 : (List UInt8) → Int → (List DecL) → Int → (List TagL) → Int → (List UInt8) → Int → (List DecL) → Int → (List TagL) → Int → Option X) (kr : Int → (List UInt8) → Int → (List DecL) → Int → (List TagL) → Int → (List UInt8) → Int → (List DecL) → Int → (List TagL) → Int → Option X),
      F.metric_Check.L3 n k0 kr (q + 7) ((((nm, k, vs, r, ts, t, ()), ()), (())), (15 : Int), (((nm, k, vs, r, ts, t, ()), ()), (())), (16 : Int), (((nm, k, vs, r, ts, t, ()), ()), (())), (17 : Int), (((nm, k, vs, r, ts, t, ()), ()), (())), (18 : Int), (((nm, k, vs, r, ts, t, ()), ()), (())), (19 : Int), (((nm, k, vs, r, ts, t, ()), ()), (())), (20 : Int), ()) 0 nm k vs r ts t nm k vs r ts t =
      (bif !nameOK nm then kr 15 nm k vs r ts t nm k vs r ts t else bif !kindB k then kr 16 nm k vs r ts t nm k vs r ts t else bif !valsB vs then kr 17 nm k vs r ts t nm k vs r ts t else bif !rateB k r then kr 18 nm k vs r ts t nm k vs r ts t
        else bif !tagsB ts then kr 19 nm k vs r ts t nm k vs r ts t else bif !timeB t then kr 20 nm k vs r ts t nm k vs r ts t else k0 nm k vs r ts t nm k vs r ts t) := by
    intro X k0 kr
    refine Eq.trans (b := (F.metric_look_name n (nm, k, vs, r, ts, t, ())).bind fun y => bif !y then kr 15 nm k vs r ts t nm k vs r ts t else
      (F.metric_look_kind n (nm, k, vs, r, ts, t, ())).bind fun y => bif !y then kr 16 nm k vs r ts t nm k vs r ts t else
      (F.metric_look_values n (nm, k, vs, r, ts, t, ())).bind fun y => bif !y then kr 17 nm k vs r ts t nm k vs r ts t else
      (F.metric_look_rate n (nm, k, vs, r, ts, t, ())).bind fun y => bif !y then kr 18 nm k vs r ts t nm k vs r ts t else
      (F.metric_look_tags n (nm, k, vs, r, ts, t, ())).bind fun y => bif !y then kr 19 nm k vs r ts t nm k vs r ts t else
      (F.metric_look_time n (nm, k, vs, r, ts, t, ())).bind fun y => bif !y then kr 20 nm k vs r ts t nm k vs r ts t else k0 nm k vs r ts t nm k vs r ts t) (by kernel_rfl) ?_
    rw [l1, l2, l3, l4, l5, l6]
    rfl
  rw [← hq] at key
  rw [key]
  unfold chkM
  simp only [bif_some]
end Go.AM
set_option linter.unusedVariables false
set_option linter.unusedSimpArgs false
namespace Go.AM
theorem cls1_word (x : UInt8) : cls 1 x = wordI (x.toNat : Int) := rfl
theorem name_step {X : Type} (n : Nat) (rec : List UInt8 → Int → Option X) (k0 : List UInt8 → Option X) (kr : Bool → Option X) (s : List UInt8) (k : Nat) (hk : k < s.length) (hs : s.length ≤ 10000) (x : UInt8) (hx : s[k]? = some x) :
    F.ref07_Name.L2.step n rec k0 kr s (k : Int) = if cls 1 x = true then rec s ((k + 1 : Nat) : Int) else kr false := by
  unfold F.ref07_Name.L2.step
  rw [bif_pos (by omega), idx_nat, hx, wrap_succ (by omega), some_bind', cls1_word]
  unfold wordI btw
  generalize hv : ((x.toNat : Nat) : Int) = v
  generalize rec s ((k + 1 : Nat) : Int) = A
  generalize kr false = B
  simp only [Bool.cond_eq_ite, Bool.not_eq_true', Bool.or_eq_true, Bool.and_eq_true, decide_eq_true_eq, beq_iff_eq, beq_eq_false_iff_ne, ne_eq]
  repeat' split
  all_goals first
    | rfl
    | (exfalso; omega)
theorem name_ref_loop (n : Nat) (X : Type) (k0 : List UInt8 → Option X) (kr : Bool → Option X) (s : List UInt8) (hs : s.length ≤ 10000) : ∀ (r : List UInt8) (k m : Nat), s.drop k = r → r.length < m →
    F.ref07_Name.L2 n k0 kr m s (k : Int) = if r.all (cls 1) = true then k0 s else kr false := by
  intro r
  induction r with
  | nil =>
    intro k m hk hm
    have := drop_nil' hk
    cases m with
    | zero => simp at hm
    | succ m =>
      show F.ref07_Name.L2.step n (F.ref07_Name.L2 n k0 kr m) k0 kr s (k : Int) = _
      unfold F.ref07_Name.L2.step
      rw [bif_neg (by omega)]
      rfl
  | cons x r ih =>
    intro k m hk hm
    obtain ⟨h1, h2, h3⟩ := drop_cons hk
    cases m with
    | zero => simp at hm
    | succ m =>
      show F.ref07_Name.L2.step n (F.ref07_Name.L2 n k0 kr m) k0 kr s (k : Int) = _
      rw [name_step n _ _ _ s k h1 hs x h2, List.all_cons]
      cases hx : cls 1 x
      · rfl
      · rw [if_pos rfl, ih (k + 1) m h3 (by simp at hm; omega)]
        rfl
theorem nameOK_eq (s : List UInt8) : nameOK s = (s.all (cls 1) && (decide (1 ≤ s.length) && decide (s.length ≤ 200))) := by
  unfold nameOK textF
  rw [if_neg (by simp [may])]
  by_cases h1 : (s.length : Int) < 1
  · rw [if_pos h1]
    have : decide (1 ≤ s.length) = false := decide_eq_false (by omega)
    rw [this]; simp
  rw [if_neg h1]
  have e1 : decide (1 ≤ s.length) = true := decide_eq_true (by omega)
  by_cases h2 : (s.length : Int) > 200
  · rw [if_pos h2]
    have : decide (s.length ≤ 200) = false := decide_eq_false (by omega)
    rw [this]; simp
  rw [if_neg h2]
  have e2 : decide (s.length ≤ 200) = true := decide_eq_true (by omega)
  rw [e1, e2]
  by_cases h3 : 0 ≤ badK (cls 1) 0 s
  · rw [if_pos h3]
    have : s.all (cls 1) = false := by
      have := (badK_ge (cls 1) 0 s).1 h3
      simpa using this
    rw [this]; rfl
  · rw [if_neg h3]
    have : s.all (cls 1) = true := Classical.byContradiction fun hh => h3 ((badK_ge _ _ _).2 hh)
    rw [this]; rfl
theorem name_ref (n : Nat) (hn : 200000 ≤ n) (s : List UInt8) (hs : s.length ≤ 10000) : F.ref07_Name n s = some (nameOK s) := by
  unfold F.ref07_Name
  have L := name_ref_loop n Bool (fun e2_0 => bif decide ((e2_0.length : Int) ≥ (1 : Int)) then some (decide ((e2_0.length : Int) ≤ (200 : Int))) else some (false)) (fun e3_2 => some (e3_2)) s hs s 0 n rfl (by omega)
  refine L.trans ?_
  rw [nameOK_eq]
  cases h : s.all (cls 1)
  · rfl
  · rw [if_pos rfl]
    by_cases h1 : 1 ≤ s.length
    · rw [bif_pos (by omega), decide_eq_true h1]
      have e2 : decide ((s.length : Int) ≤ 200) = decide (s.length ≤ 200) := by apply decide_eq_decide.2; omega
      rw [e2]; rfl
    · rw [bif_neg (by omega), decide_eq_false h1]; rfl
theorem rest_loop (n : Nat) (hn : 200000 ≤ n) (X : Type) (k0 : List UInt8 → Int → List DecL → Int → List TagL → Int → Option X) (kr : Int → List UInt8 → Int → List DecL → Int → List TagL → Int → Option X) (vs : List TagL) (hs : vs.length ≤ 10000) (hok : ∀ d ∈ vs, TagLOK d) (b0 : List UInt8) (b1 : Int) (b2 : List DecL) (b3 : Int) (b5 : Int) : ∀ (r : List TagL) (k m : Nat), vs.drop k = r → r.length < m →
    F.ref07_Rest.L12 n k0 kr m (k : Int) b0 b1 b2 b3 vs b5 = bif r.all tagGood then k0 b0 b1 b2 b3 vs b5 else kr 19 b0 b1 b2 b3 vs b5 := by
  intro r
  induction r with
  | nil =>
    intro k m hk hm
    have := drop_nil' hk
    cases m with
    | zero => simp at hm
    | succ m =>
      show F.ref07_Rest.L12.step n (F.ref07_Rest.L12 n k0 kr m) k0 kr _ _ _ _ _ _ _ = _
      unfold F.ref07_Rest.L12.step
      rw [bif_neg (by omega)]
      rfl
  | cons x r ih =>
    intro k m hk hm
    obtain ⟨h1, h2, h3⟩ := drop_cons hk
    have hx : TagLOK x := hok x (List.mem_of_getElem? h2)
    cases m with
    | zero => simp at hm
    | succ m =>
      show F.ref07_Rest.L12.step n (F.ref07_Rest.L12 n k0 kr m) k0 kr _ _ _ _ _ _ _ = _
      unfold F.ref07_Rest.L12.step
      rw [bif_pos (by omega), idx_nat, h2]
      simp only [some_bind', tag_ref n hn hx, List.all_cons]
      cases h : tagGood x
      · rfl
      · rw [wrap_succ (by omega), ih (k + 1) m h3 (by simp at hm; omega)]; rfl
def restM (m : MetD) (vals : Bool) : Int :=
  bif !nameOK m.1 then 15 else bif !kindB m.2.1 then 16 else bif !(vals && (decide (1 ≤ m.2.2.1.length) && decide (m.2.2.1.length ≤ 64))) then 17 else bif !rateB m.2.1 m.2.2.2.1 then 18 else bif !tagsB m.2.2.2.2.1 then 19 else bif !timeB m.2.2.2.2.2.1 then 20 else 0
theorem chk_rest (m : MetD) : chkM m = restM m (m.2.2.1.all fun d => decC d == 0) := by
  unfold chkM restM valsB
  cases decide (1 ≤ m.2.2.1.length) <;> cases decide (m.2.2.1.length ≤ 64) <;> cases (m.2.2.1.all fun d => decC d == 0) <;> rfl
theorem rest_ref (n : Nat) (hn : 200000 ≤ n) (m : MetD) (h1 : m.1.length ≤ 10000) (h2 : m.2.2.2.2.1.length ≤ 10000) (h3 : ∀ t ∈ m.2.2.2.2.1, TagLOK t) (vals : Bool) : F.ref07_Rest n m vals = some (restM m vals) := by
  obtain ⟨nm, k, vs, r, ts, t, _⟩ := m
  simp only at h1 h2 h3
  unfold F.ref07_Rest restM
  simp only [name_ref n hn nm h1, some_bind']
  cases nameOK nm
  · rfl
  simp only [Bool.not_true, cond_false]
  unfold kindB
  by_cases k1 : k < 1
  · rw [bif_pos k1, decide_eq_false (by omega : ¬ 1 ≤ k)]; rfl
  rw [bif_neg k1, decide_eq_true (by omega : 1 ≤ k)]
  by_cases k2 : k > 5
  · rw [bif_pos k2, decide_eq_false (by omega : ¬ k ≤ 5)]; rfl
  rw [bif_neg k2, decide_eq_true (by omega : k ≤ 5)]
  simp only [Bool.and_self, Bool.not_true, cond_false]
  cases vals
  · rfl
  simp only [Bool.not_true, cond_false, Bool.true_and]
  by_cases v1 : (vs.length : Int) < 1
  · rw [bif_pos v1, decide_eq_false (by omega : ¬ 1 ≤ vs.length)]; rfl
  rw [bif_neg v1, decide_eq_true (by omega : 1 ≤ vs.length)]
  by_cases v2 : (vs.length : Int) > 64
  · rw [bif_pos v2, decide_eq_false (by omega : ¬ vs.length ≤ 64)]; rfl
  rw [bif_neg v2, decide_eq_true (by omega : vs.length ≤ 64)]
  simp only [Bool.and_self, Bool.not_true, cond_false]
  unfold rateB
  by_cases r1 : r < 1
  · rw [bif_pos r1, decide_eq_false (by omega : ¬ 1 ≤ r)]; rfl
  rw [bif_neg r1, decide_eq_true (by omega : 1 ≤ r)]
  by_cases r2 : r > 1000000
  · rw [bif_pos r2, decide_eq_false (by omega : ¬ r ≤ 1000000)]; rfl
  rw [bif_neg r2, decide_eq_true (by omega : r ≤ 1000000)]
  simp only [Bool.true_and]
  have tail : (bif decide ((ts.length : Int) > (32 : Int)) then some (19 : Int) else
        F.ref07_Rest.L12 n
          (fun e4_b0_0 e4_b0_1 e4_b0_2 e4_b0_3 e4_b0_4 e4_b0_5 =>
            bif decide (e4_b0_5 < (0 : Int)) then some ((20 : Int)) else bif decide (e4_b0_5 > (1099511627776 : Int)) then some ((20 : Int)) else some ((0 : Int)))
          (fun e5_4 e5_b0_0 e5_b0_1 e5_b0_2 e5_b0_3 e5_b0_4 e5_b0_5 => some (e5_4)) n (0 : Int) nm k vs r ts t) = some (bif !tagsB ts then 19 else bif !timeB t then 20 else 0) := by
    unfold tagsB timeB
    by_cases t1 : (ts.length : Int) > 32
    · rw [bif_pos t1, decide_eq_false (by omega : ¬ ts.length ≤ 32)]; rfl
    rw [bif_neg t1, decide_eq_true (by omega : ts.length ≤ 32)]
    refine (rest_loop n hn Int _ _ ts h2 h3 nm k vs r t ts 0 n rfl (by omega)).trans ?_
    cases ts.all tagGood
    · rfl
    · rw [cond_true]
      by_cases u1 : t < 0
      · rw [bif_pos u1, decide_eq_false (by omega : ¬ 0 ≤ t)]; rfl
      rw [bif_neg u1, decide_eq_true (by omega : 0 ≤ t)]
      by_cases u2 : t > 1099511627776
      · rw [bif_pos u2, decide_eq_false (by omega : ¬ t ≤ 1099511627776)]; rfl
      rw [bif_neg u2, decide_eq_true (by omega : t ≤ 1099511627776)]
      rfl
  cases hk : (k == 2)
  · exact tail
  · cases hr : (r == 1000000)
    · rfl
    · exact tail
end Go.AM
set_option linter.unusedVariables false
set_option linter.unusedSimpArgs false
namespace Go.AM
theorem check_ref (n : Nat) (hn : 200000 ≤ n) (neg : Bool) (c : Nat) (hc : c < two64) (e : Int) : F.ref03_Check n (neg, (c : Int), e, ()) = some (checkR neg c e) := by
  unfold F.ref03_Check checkR
  have hl := dd_len64 hc
  simp only [digits03 n (by omega) c hc, make_eq n hn neg _ (dd_digs c) (by omega) e, some_bind']
  have T := check_tail neg c e _ rfl
  have T' : (bif !((valR neg (Lib.decDigits c) e).2.1 == 0) then some (21 : Int) else bif !(((valR neg (Lib.decDigits c) e).1.1 == neg) && (((valR neg (Lib.decDigits c) e).1.2.1 == (c : Int)) && ((valR neg (Lib.decDigits c) e).1.2.2.1 == e))) then some ((21 : Int)) else some ((0 : Int))) = _ := T
  by_cases h0 : c = 0
  · have e0 : (((c : Int)) == 0) = true := by simp [h0]
    rw [e0, if_neg (fun h => h.1 h0)]
    exact T'
  · have e0 : (((c : Int)) == 0) = false := by simpa using h0
    rw [e0]
    simp only [Bool.not_false, cond_true]
    by_cases h1 : e < -18
    · rw [bif_pos h1, if_pos ⟨h0, Or.inl h1⟩]
    · rw [bif_neg h1]
      by_cases h2 : e > 18
      · rw [bif_pos h2, if_pos ⟨h0, Or.inr h2⟩]
      · rw [bif_neg h2, if_neg (by omega)]
        exact T'
end Go.AM
set_option linter.unusedVariables false
set_option linter.unusedSimpArgs false
namespace Go.AM
theorem decC_ref (n : Nat) (hn : 200000 ≤ n) {d : DecL} (h : DecLOK d) : F.ref03_Check n (d.1, d.2.1, d.2.2, ()) = some (decC d) := by
  obtain ⟨neg, c, e, rfl, hc, he⟩ := decL_nat h
  exact check_ref n hn neg c hc e
theorem check_loop (n : Nat) (hn : 200000 ≤ n) (X : Type) (k0 : Bool → List UInt8 → Int → List DecL → Int → List TagL → Int → Option X) (vs : List DecL) (hs : vs.length ≤ 10000) (hok : ∀ d ∈ vs, DecLOK d) (b0 : List UInt8) (b1 : Int) (b3 : Int) (b4 : List TagL) (b5 : Int) : ∀ (r : List DecL) (k m : Nat) (v : Bool), vs.drop k = r → r.length < m →
    F.ref07_Check.L3 n k0 m v (k : Int) b0 b1 vs b3 b4 b5 = k0 (v && r.all fun d => decC d == 0) b0 b1 vs b3 b4 b5 := by
  intro r
  induction r with
  | nil =>
    intro k m v hk hm
    have := drop_nil' hk
    cases m with
    | zero => simp at hm
    | succ m =>
      show F.ref07_Check.L3.step n (F.ref07_Check.L3 n k0 m) k0 v _ _ _ _ _ _ _ = _
      unfold F.ref07_Check.L3.step
      rw [bif_neg (by omega)]
      cases v <;> rfl
  | cons x r ih =>
    intro k m v hk hm
    obtain ⟨h1, h2, h3⟩ := drop_cons hk
    have hx : DecLOK x := hok x (List.mem_of_getElem? h2)
    cases m with
    | zero => simp at hm
    | succ m =>
      show F.ref07_Check.L3.step n (F.ref07_Check.L3 n k0 m) k0 v _ _ _ _ _ _ _ = _
      unfold F.ref07_Check.L3.step
      rw [bif_pos (by omega), wrap_succ (by omega)]
      cases v
      · rw [cond_false, ih (k + 1) m _ h3 (by simp at hm; omega)]; rfl
      · rw [cond_true, idx_nat, h2]
        simp only [some_bind', decC_ref n hn hx, List.all_cons, Bool.true_and]
        rw [ih (k + 1) m _ h3 (by simp at hm; omega)]
theorem metcheck_ref (n : Nat) (hn : 200000 ≤ n) (m : MetD) (hm : MetOK m) : F.ref07_Check n m = some (chkM m) := by
  have hr := rest_ref n hn m hm.1 hm.2.2.1 hm.2.2.2 (m.2.2.1.all fun d => decC d == 0)
  have h2 := hm.2.1
  rw [chk_rest]
  obtain ⟨nm, k, vs, r, ts, t, _⟩ := m
  simp only at hr h2 ⊢
  unfold F.ref07_Check
  refine (check_loop n hn Int _ vs h2.1 h2.2 nm k r ts t vs 0 n true rfl (by have := h2.1; omega)).trans ?_
  rw [Bool.true_and, hr]
  rfl
def bareM (m : MetD) : Bool := decide (m.2.2.1.length = 1) && decide (m.2.2.2.2.1.length = 0)
def negM (m : MetD) : Bool := match m.2.2.1 with | [] => false | d :: _ => d.1
def saysS (m : MetD) : Bool := bareM m && ((m.2.2.2.2.2.1 == 0) && (!(m.2.1 == 5) && (!(m.2.1 == 2) || !negM m)))
def saysG (m : MetD) : Bool := bareM m && (!(m.2.2.2.2.2.1 == 0) && (m.2.1 == 2))
def saysM (m : MetD) (f : Int) : Bool := if f = 1 then saysS m else if f = 3 then saysG m else true
def expM (m : MetD) (f : Int) : Int := if f < 1 ∨ f > 4 then 29 else if chkM m = 0 then (bif saysM m f then 0 else 26) else chkM m
theorem len_int (l : List DecL) (k : Nat) : (((l.length : Nat) : Int) == ((k : Nat) : Int)) = decide (l.length = k) := by
  by_cases h : l.length = k
  · rw [h]; simp
  · rw [decide_eq_false h, beq_eq_false_iff_ne]; omega
theorem len_intT (l : List TagL) (k : Nat) : (((l.length : Nat) : Int) == ((k : Nat) : Int)) = decide (l.length = k) := by
  by_cases h : l.length = k
  · rw [h]; simp
  · rw [decide_eq_false h, beq_eq_false_iff_ne]; omega
theorem bare_eq (n : Nat) (m : MetD) : F.expr_said_bare n m = some (bareM m) := by
  have h1 := len_int m.2.2.1 1
  have h2 := len_intT m.2.2.2.2.1 0
  unfold F.expr_said_bare bareM
  rw [show (1 : Int) = ((1 : Nat) : Int) from rfl, show (0 : Int) = ((0 : Nat) : Int) from rfl, h1, h2]
  cases decide (m.2.2.1.length = 1) <;> rfl
theorem neg_idx {m : MetD} (h : bareM m = true) : ∃ d, idx m.2.2.1 (0 : Int) = some d ∧ negM m = d.1 := by
  unfold bareM at h
  obtain ⟨nm, k, vs, r, ts, t, _⟩ := m
  match vs, h with
  | [d], _ => exact ⟨d, rfl, rfl⟩
theorem said_s (n : Nat) (m : MetD) : F.expr_said_statsd n m = some (saysS m) := by
  unfold F.expr_said_statsd saysS
  have hb : F.expr_said_bare n (m.1, m.2.1, m.2.2.1, m.2.2.2.1, m.2.2.2.2.1, m.2.2.2.2.2.1, ()) = some (bareM m) := bare_eq n m
  rw [hb, some_bind']
  cases h : bareM m
  · rfl
  simp only [Bool.not_true, cond_false, Bool.true_and]
  obtain ⟨d, hd, hg⟩ := neg_idx h
  rw [hd, hg]
  cases (m.2.2.2.2.2.1 == 0) <;> cases (m.2.1 == 5) <;> cases (m.2.1 == 2) <;> rfl
theorem said_g (n : Nat) (m : MetD) : F.expr_said_graphite n m = some (saysG m) := by
  unfold F.expr_said_graphite saysG
  have hb : F.expr_said_bare n (m.1, m.2.1, m.2.2.1, m.2.2.2.1, m.2.2.2.2.1, m.2.2.2.2.2.1, ()) = some (bareM m) := bare_eq n m
  rw [hb, some_bind']
  cases bareM m <;> cases (m.2.2.2.2.2.1 == 0) <;> rfl
theorem says_ref (n : Nat) (m : MetD) (f : Int) : F.ref09_Says n m f = some (saysM m f) := by
  unfold F.ref09_Says saysM saysS saysG
  have h1 := len_int m.2.2.1 1
  have h2 := len_intT m.2.2.2.2.1 0
  have e1 : ((m.2.2.1.length : Int) == (1 : Int)) = decide (m.2.2.1.length = 1) := h1
  have e2 : ((m.2.2.2.2.1.length : Int) == (0 : Int)) = decide (m.2.2.2.2.1.length = 0) := h2
  rw [e1, e2]
  by_cases f1 : f = 1
  · subst f1
    simp only [beq_self_eq_true, cond_true, if_true]
    cases hb : bareM m
    · unfold bareM at hb
      cases g1 : decide (m.2.2.1.length = 1)
      · rfl
      · rw [g1, Bool.true_and] at hb
        rw [hb]; rfl
    · obtain ⟨d, hd, hg⟩ := neg_idx hb
      unfold bareM at hb
      rw [Bool.and_eq_true] at hb
      rw [hb.1, hb.2, hd, hg]
      cases (m.2.2.2.2.2.1 == 0) <;> cases (m.2.1 == 5) <;> cases (m.2.1 == 2) <;> rfl
  · rw [beq_eq_false_iff_ne.2 f1, if_neg f1]
    by_cases f3 : f = 3
    · subst f3
      simp only [beq_self_eq_true, cond_true, cond_false, if_true]
      unfold bareM
      cases decide (m.2.2.1.length = 1) <;> cases decide (m.2.2.2.2.1.length = 0) <;> cases (m.2.2.2.2.2.1 == 0) <;> rfl
    · rw [beq_eq_false_iff_ne.2 f3, if_neg f3]
      cases decide (m.2.2.1.length = 1) <;> rfl
theorem expm_eq (n : Nat) (hn : 200000 ≤ n) (m : MetD) (hm : MetOK m) (f : Int) : F.expr_Metric n m f = some (expM m f) := by
  have hc : F.metric_Check n (m.1, m.2.1, m.2.2.1, m.2.2.2.1, m.2.2.2.2.1, m.2.2.2.2.2.1, ()) = some (chkM m) := metcheck_eq n hn m hm
  have hs : F.expr_said_statsd n (m.1, m.2.1, m.2.2.1, m.2.2.2.1, m.2.2.2.2.1, m.2.2.2.2.2.1, ()) = some (saysS m) := said_s n m
  have hg : F.expr_said_graphite n (m.1, m.2.1, m.2.2.1, m.2.2.2.1, m.2.2.2.2.1, m.2.2.2.2.2.1, ()) = some (saysG m) := said_g n m
  unfold F.expr_Metric expM
  rw [hc, hs, hg]
  simp only [some_bind']
  by_cases h : f < 1 ∨ f > 4
  · rw [if_pos h, beq_eq_false_iff_ne.2 (by omega : f ≠ 1), beq_eq_false_iff_ne.2 (by omega : f ≠ 2), beq_eq_false_iff_ne.2 (by omega : f ≠ 3), beq_eq_false_iff_ne.2 (by omega : f ≠ 4)]
    rfl
  rw [if_neg h]
  by_cases h0 : chkM m = 0
  · rw [if_pos h0, h0]
    rcases (by omega : f = 1 ∨ f = 2 ∨ f = 3 ∨ f = 4) with rfl | rfl | rfl | rfl
    · show (bif !saysS m then some 26 else some 0) = some (bif saysS m then 0 else 26)
      cases saysS m <;> rfl
    · rfl
    · show (bif !saysG m then some 26 else some 0) = some (bif saysG m then 0 else 26)
      cases saysG m <;> rfl
    · rfl
  · rw [if_neg h0, beq_eq_false_iff_ne.2 h0]
    rcases (by omega : f = 1 ∨ f = 2 ∨ f = 3 ∨ f = 4) with rfl | rfl | rfl | rfl <;> rfl
end Go.AM
set_option linter.unusedVariables false
set_option linter.unusedSimpArgs false
namespace Go.AM
end Go.AM
set_option linter.unusedVariables false
set_option linter.unusedSimpArgs false
namespace Go.AM
def MetWf (m : MetD) : Prop := (∀ d ∈ m.2.2.1, DecLOK d)
def valL : List DecL → List UInt8
  | [] => []
  | d :: _ => textD d.1 d.2.1.toNat d.2.2
theorem chk_zero {m : MetD} (h : chkM m = 0) : nameOK m.1 = true ∧ kindB m.2.1 = true ∧ valsB m.2.2.1 = true ∧ rateB m.2.1 m.2.2.2.1 = true ∧ tagsB m.2.2.2.2.1 = true ∧ timeB m.2.2.2.2.2.1 = true := by
  unfold chkM at h
  revert h
  cases nameOK m.1 <;> cases kindB m.2.1 <;> cases valsB m.2.2.1 <;> cases rateB m.2.1 m.2.2.2.1 <;> cases tagsB m.2.2.2.2.1 <;> cases timeB m.2.2.2.2.2.1 <;> simp
theorem textD_le {d : DecL} (hd : DecLOK d) (h : decC d = 0) : (textD d.1 d.2.1.toNat d.2.2).length ≤ 39 := by
  obtain ⟨neg, c, e, rfl, hc, he⟩ := decL_nat hd
  exact (text_len neg c hc e (check_zero h).2).1
theorem decText_eq (n : Nat) (hn : 200000 ≤ n) {d : DecL} (hd : DecLOK d) (h : decC d = 0) : F.dec_Text n (d.1, d.2.1, d.2.2, ()) = some (textD d.1 d.2.1.toNat d.2.2, 0, ()) := by
  obtain ⟨neg, c, e, rfl, hc, he⟩ := decL_nat hd
  have h' : checkR neg c e = 0 := h
  have := text_dec n hn neg c hc e he
  rw [if_pos h'] at this
  exact this
end Go.AM
set_option linter.unusedVariables false
set_option linter.unusedSimpArgs false
namespace Go.AM
theorem small_loop (n : Nat) (X : Type) (k0 : List UInt8 → Int → List DecL → Int → List TagL → Int → Option X) (kr : Bool → List UInt8 → Int → List DecL → Int → List TagL → Int → Option X) (vs : List TagL) (hs : vs.length ≤ 140737488351232) (b0 : List UInt8) (b1 : Int) (b2 : List DecL) (b3 : Int) (b5 : Int) : ∀ (j k m : Nat), k + j = 51 → j < m →
    F.law10_Small.L2 n k0 kr m (k : Int) b0 b1 b2 b3 vs b5 = bif ((vs.drop k).take j).all (fun t => decide (t.1.length ≤ 200) && decide (t.2.length ≤ 200)) then k0 b0 b1 b2 b3 vs b5 else kr false b0 b1 b2 b3 vs b5 := by
  intro j
  induction j with
  | zero =>
    intro k m hk hm
    obtain ⟨m, rfl⟩ : ∃ q, m = q + 1 := ⟨m - 1, by omega⟩
    show F.law10_Small.L2.step n (F.law10_Small.L2 n k0 kr m) k0 kr _ _ _ _ _ _ _ = _
    unfold F.law10_Small.L2.step
    rw [bif_neg (by omega : ¬ (k : Int) < 51)]
    by_cases h : (k : Int) < (vs.length : Int)
    · rw [bif_pos h]; rfl
    · rw [bif_neg h]; rfl
  | succ j ih =>
    intro k m hk hm
    obtain ⟨m, rfl⟩ : ∃ q, m = q + 1 := ⟨m - 1, by omega⟩
    show F.law10_Small.L2.step n (F.law10_Small.L2 n k0 kr m) k0 kr _ _ _ _ _ _ _ = _
    unfold F.law10_Small.L2.step
    rw [bif_pos (by omega : (k : Int) < 51)]
    by_cases h : k < vs.length
    · rw [bif_pos (by omega), idx_lt h]
      have hd : vs.drop k = vs[k] :: vs.drop (k + 1) := List.drop_eq_getElem_cons h
      simp only [some_bind', hd, List.take_succ_cons, List.all_cons]
      rw [wrap_succ (by omega), ih (k + 1) m (by omega) (by omega)]
      by_cases h1 : vs[k].1.length ≤ 200
      · rw [bif_neg (by omega), decide_eq_true h1]
        by_cases h2 : vs[k].2.length ≤ 200
        · rw [bif_neg (by omega), decide_eq_true h2]; rfl
        · rw [bif_pos (by omega), decide_eq_false h2]; rfl
      · rw [bif_pos (by omega), decide_eq_false h1]; rfl
    · rw [bif_neg (by omega), List.drop_eq_nil_of_le (by omega)]; rfl
def smallB (m : MetD) : Bool := (m.2.2.2.2.1.take 51).all (fun t => decide (t.1.length ≤ 200) && decide (t.2.length ≤ 200)) && (decide (m.1.length ≤ 300) && (decide (m.2.2.1.length ≤ 80) && decide (m.2.2.2.2.1.length ≤ 50)))
theorem small_eq (n : Nat) (hn : 200000 ≤ n) (m : MetD) (hs : m.2.2.2.2.1.length ≤ 140737488351232) : F.law10_Small n m = some (smallB m) := by
  obtain ⟨nm, k, vs, r, ts, t, _⟩ := m
  simp only at hs
  unfold F.law10_Small smallB
  refine (small_loop n Bool _ _ ts hs nm k vs r t 51 0 n (by omega) (by omega)).trans ?_
  rw [List.drop_zero]
  simp only
  cases (ts.take 51).all (fun t => decide (t.1.length ≤ 200) && decide (t.2.length ≤ 200))
  · rfl
  · rw [cond_true]
    have e1 : decide ((nm.length : Int) ≤ 300) = decide (nm.length ≤ 300) := by apply decide_eq_decide.2; omega
    have e2 : decide ((vs.length : Int) ≤ 80) = decide (vs.length ≤ 80) := by apply decide_eq_decide.2; omega
    have e3 : decide ((ts.length : Int) ≤ 50) = decide (ts.length ≤ 50) := by apply decide_eq_decide.2; omega
    rw [e1, e2, e3]
    cases decide (nm.length ≤ 300) <;> cases decide (vs.length ≤ 80) <;> rfl
theorem small_ok {m : MetD} (hw : MetWf m) (h : smallB m = true) : MetOK m ∧ m.1.length ≤ 300 := by
  unfold smallB at h
  simp only [Bool.and_eq_true, decide_eq_true_eq] at h
  obtain ⟨h1, h2, h3, h4⟩ := h
  refine ⟨⟨by omega, ⟨by omega, hw⟩, by omega, fun t ht => ?_⟩, h2⟩
  rw [List.take_of_length_le (by omega)] at h1
  have := List.all_eq_true.1 h1 t ht
  simp only [Bool.and_eq_true, decide_eq_true_eq] at this
  exact ⟨by omega, by omega⟩
end Go.AM
set_option linter.unusedVariables false
set_option linter.unusedSimpArgs false
namespace Go.AM
end Go.AM
set_option linter.unusedVariables false
set_option linter.unusedSimpArgs false
namespace Go.AM
def pad6 (k : Nat) : List UInt8 := (Lib.decDigits (1000000 + k)).drop 1
theorem pad6_all {k : Nat} (h : k < 1000000) : Lib.decDigits (1000000 + k) = 49 :: pad6 k ∧ (pad6 k).length = 6 ∧ Digs (pad6 k) ∧ val (pad6 k) = k := by
  have hN : (Lib.decDigits (1000000 + k)).length = 7 := by rw [dd_length]; exact Lib.nDigits_unique 6 _ (by omega) (by omega)
  have hd := dd_digs (1000000 + k)
  have hv := dd_val (1000000 + k)
  unfold pad6
  cases e : Lib.decDigits (1000000 + k) with
  | nil => rw [e] at hN; simp at hN
  | cons b r =>
    rw [e] at hN hd hv
    have hr : r.length = 6 := by simpa using hN
    obtain ⟨d1, d2⟩ := digs_cons.1 hd
    have := val_lt d2
    rw [hr] at this
    rw [val_cons, hr] at hv
    have hb : dv b = 1 := by omega
    have : b = 49 := dv_inj d1 rfl hb
    subst this
    refine ⟨rfl, hr, d2, ?_⟩
    show val r = k
    omega
def rateText (k : Int) : List UInt8 × Int × Unit :=
  if k < 1 ∨ k > 1000000 then ([], 10, ()) else if k = 1000000 then ([49], 0, ()) else ([48, 46] ++ trz (pad6 k.toNat), 0, ())
theorem rateText_num (n : Nat) (k : Int) : F.num_RateText n k = some (rateText k) := by
  unfold F.num_RateText rateText
  by_cases h1 : k < 1
  · rw [bif_pos h1, if_pos (Or.inl h1)]
  rw [bif_neg h1]
  by_cases h2 : k > 1000000
  · rw [bif_pos h2, if_pos (Or.inr h2)]
  rw [bif_neg h2, if_neg (by omega)]
  by_cases h3 : k = 1000000
  · subst h3; rfl
  have e3 : (k == 1000000) = false := by simpa using h3
  rw [e3, cond_false, if_neg h3, wrap_in (by omega)]
  obtain ⟨p1, p2, p3, p4⟩ := pad6_all (k := k.toNat) (by omega)
  have hi : O.itoa n (1000000 + k) = some (49 :: pad6 k.toNat) := by
    unfold O.itoa
    have : (decide (-9223372036854775808 ≤ 1000000 + k) && decide (1000000 + k ≤ 9223372036854775807)) = true := by simp; omega
    rw [this, cond_true]
    unfold Lib.itoa
    rw [if_neg (by omega), show (1000000 + k).toNat = 1000000 + k.toNat from by omega, p1]
  rw [hi, some_bind']
  have hsub : sub (49 :: pad6 k.toNat) 1 (((49 :: pad6 k.toNat).length : Nat) : Int) = some (pad6 k.toNat) := by
    have := sub_nat (49 :: pad6 k.toNat) 1 (49 :: pad6 k.toNat).length (by simp) (by simp)
    rw [List.take_length] at this
    exact this
  rw [hsub, some_bind']
  unfold O.trimR
  have hb : (Nat.blt (48 : UInt8).toNat 128 && Nat.ble (pad6 k.toNat).length big47) = true := by rw [p2]; rfl
  simp only [hb, cond_true, some_bind', trimR_trz]
  rw [bif_pos]
  have := trz_le (pad6 k.toNat)
  rw [strMax_eq]
  omega
end Go.AM
set_option linter.unusedVariables false
set_option linter.unusedSimpArgs false
namespace Go.AM
theorem rateText_form {k : Int} (hk : 1 ≤ k ∧ k < 1000000) : rateText k = (48 :: 46 :: trz (pad6 k.toNat), 0, ()) := by
  unfold rateText
  rw [if_neg (by omega), if_neg (by omega)]; rfl
end Go.AM
set_option linter.unusedVariables false
set_option linter.unusedSimpArgs false
namespace Go.AM
end Go.AM
set_option linter.unusedVariables false
set_option linter.unusedSimpArgs false
namespace Go.AM
abbrev KRS (X : Type) := List UInt8 → List UInt8 → Int → List (Bool × Int × Int) → Int → List (List UInt8 × List UInt8) → Int → Int → Int → Option X
section
variable {X : Type} (n : Nat) (kr : KRS X)
end
end Go.AM
set_option linter.unusedVariables false
set_option linter.unusedSimpArgs false
namespace Go.AM
def rateL (r : Int) : List UInt8 := if r = 1000000 then [] else [124, 64] ++ (rateText r).1
def lineS (m : MetD) : List UInt8 := m.1 ++ [58] ++ valL m.2.2.1 ++ [124] ++ wordL m.2.1 ++ rateL m.2.2.2.1
def sdLineR (m : MetD) : List UInt8 × Int × Unit := if expM m 1 = 0 then (lineS m, 0, ()) else ([], expM m 1, ())
theorem said_facts {m : MetD} (h : expM m 1 = 0) : ∃ nm k d r, m = (nm, k, [d], r, [], 0, ()) ∧ nameOK nm = true ∧ 1 ≤ k ∧ k ≤ 4 ∧ decC d = 0 ∧ 1 ≤ r ∧ r ≤ 1000000 ∧ (k = 2 → r = 1000000) ∧ (k = 2 → d.1 = false) := by
  obtain ⟨nm, k, vs, r, ts, t, _⟩ := m
  unfold expM at h
  rw [if_neg (by omega)] at h
  by_cases h0 : chkM (nm, k, vs, r, ts, t, ()) = 0
  · rw [if_pos h0] at h
    have hs : saysS (nm, k, vs, r, ts, t, ()) = true := by
      cases e : saysM (nm, k, vs, r, ts, t, ()) 1
      · rw [e] at h; cases h
      · exact e
    obtain ⟨c1, c2, c3, c4, c5, c6⟩ := chk_zero h0
    simp only at c1 c2 c3 c4 c5 c6
    unfold saysS at hs
    simp only [Bool.and_eq_true, Bool.not_eq_true', beq_iff_eq, beq_eq_false_iff_ne, Bool.or_eq_true] at hs
    obtain ⟨hb, ht, hk5, hk2⟩ := hs
    unfold bareM at hb
    simp only [Bool.and_eq_true, decide_eq_true_eq] at hb
    obtain ⟨hv, hg⟩ := hb
    have hg' : ts = [] := List.length_eq_zero_iff.1 hg
    subst hg' ht
    match vs, hv with
    | [d], _ =>
      unfold kindB at c2
      unfold valsB at c3
      unfold rateB at c4
      simp only [Bool.and_eq_true, decide_eq_true_eq, List.all_cons, List.all_nil, Bool.and_true, beq_iff_eq, Bool.or_eq_true, Bool.not_eq_true', beq_eq_false_iff_ne] at c2 c3 c4
      refine ⟨nm, k, d, r, rfl, c1, c2.1, by omega, c3.2.2, c4.1, c4.2.1, fun hk => ?_, fun hk => ?_⟩
      · rcases c4.2.2 with h | h
        · exact absurd hk h
        · exact h
      · rcases hk2 with h | h
        · exact absurd hk h
        · exact h
  · rw [if_neg h0] at h; exact absurd h h0
theorem wordE_in {k : Int} (h1 : 1 ≤ k) (h2 : k ≤ 4) : wordE k = 0 := by unfold wordE; rw [if_pos (by omega)]
theorem wordL_le (k : Int) : (wordL k).length ≤ 2 := by
  unfold wordL
  repeat (first | split | decide)
theorem rateText_ok {r : Int} (h1 : 1 ≤ r) (h2 : r ≤ 1000000) : (rateText r).2.1 = 0 ∧ (rateText r).1.length ≤ 8 := by
  by_cases h : r = 1000000
  · subst h; exact ⟨rfl, by decide⟩
  · rw [rateText_form ⟨h1, by omega⟩]
    obtain ⟨p1, p2, p3, p4⟩ := pad6_all (k := r.toNat) (by omega)
    have := trz_le (pad6 r.toNat)
    refine ⟨rfl, ?_⟩
    simp only [List.length_cons]
    omega
theorem sdLine_eq (n : Nat) (hn : 200000 ≤ n) (m : MetD) (hm : MetOK m) : F.statsd_Line n m = some (sdLineR m) := by
  unfold F.statsd_Line sdLineR
  have he : F.expr_Metric n (m.1, m.2.1, m.2.2.1, m.2.2.2.1, m.2.2.2.2.1, m.2.2.2.2.2.1, ()) (1 : Int) = some (expM m 1) := expm_eq n hn m hm 1
  rw [he, some_bind']
  by_cases h0 : expM m 1 = 0
  · rw [if_pos h0]
    obtain ⟨nm, k, d, r, rfl, hnm, k1, k4, hd, r1, r2, hr2, hneg⟩ := said_facts h0
    have hdo : DecLOK d := hm.2.1.2 d (by simp)
    have hn1 := hm.1
    simp only at hn1
    have ht := textD_le hdo hd
    have hw := wordL_le k
    obtain ⟨t1, t2⟩ := rateText_ok r1 r2
    have hE := wordE_in k1 k4
    have hi : idx [d] (0 : Int) = some d := rfl
    rw [h0]
    simp only [O.word, some_bind', hE, hi, decText_eq n hn hdo hd, rateText_num, t1]
    unfold lineS valL rateL
    simp only [beq_self_eq_true, Bool.not_true, cond_false]
    rw [bif_pos (by rw [strMax_eq]; omega), bif_pos (by rw [strMax_eq]; simp; omega), bif_pos (by rw [strMax_eq]; simp; omega), bif_pos (by rw [strMax_eq]; simp; omega)]
    by_cases hr : r = 1000000
    · subst hr; simp
    · rw [beq_eq_false_iff_ne.2 hr, cond_false, if_neg hr, bif_pos (by rw [strMax_eq]; simp; omega), bif_pos (by rw [strMax_eq]; simp; omega), bif_pos (by rw [strMax_eq]; simp; omega)]
      simp
  · rw [beq_eq_false_iff_ne.2 h0, if_neg h0]; rfl
end Go.AM
set_option linter.unusedVariables false
set_option linter.unusedSimpArgs false
namespace Go.AM
end Go.AM
set_option linter.unusedVariables false
set_option linter.unusedSimpArgs false
namespace Go.AM
end Go.AM
set_option linter.unusedVariables false
set_option linter.unusedSimpArgs false
namespace Go.AM
end Go.AM
set_option linter.unusedVariables false
set_option linter.unusedSimpArgs false
namespace Go.AM
section
variable {X : Type} (n : Nat) (kr : KRS X)
end
end Go.AM
set_option linter.unusedVariables false
set_option linter.unusedSimpArgs false
namespace Go.AM
end Go.AM
set_option linter.unusedVariables false
set_option linter.unusedSimpArgs false
namespace Go.AM
end Go.AM
set_option linter.unusedVariables false
set_option linter.unusedSimpArgs false
namespace Go.AM
section
variable {X : Type} (kr : KRS X)
end
end Go.AM
set_option linter.unusedVariables false
set_option linter.unusedSimpArgs false
namespace Go.AM
def numText (k : Int) : List UInt8 × Int × Unit := if k < 0 then ([], 10, ()) else (Lib.decDigits k.toNat, 0, ())
theorem text_num (n : Nat) (k : Int) (h : -9223372036854775808 ≤ k ∧ k ≤ 9223372036854775807) : F.num_Text n k = some (numText k) := by
  unfold F.num_Text numText
  by_cases h0 : k < 0
  · rw [bif_pos h0, if_pos h0]
  · rw [bif_neg h0, if_neg h0]
    unfold O.itoa
    have : (decide (-9223372036854775808 ≤ k) && decide (k ≤ 9223372036854775807)) = true := by simp [h]
    rw [this, cond_true, some_bind']
    unfold Lib.itoa
    rw [if_neg h0]
end Go.AM
set_option linter.unusedVariables false
set_option linter.unusedSimpArgs false
namespace Go.AM
theorem decL_beq (x y : DecL) : ((x.1 == y.1) && ((x.2.1 == y.2.1) && (x.2.2 == y.2.2))) = decide (x = y) := by
  obtain ⟨a, b, c⟩ := x
  obtain ⟨a', b', c'⟩ := y
  by_cases h : ((a, b, c) : DecL) = (a', b', c')
  · rw [decide_eq_true h]
    simp only [Prod.mk.injEq] at h
    simp [h.1, h.2.1, h.2.2]
  · rw [decide_eq_false h]
    cases h1 : (a == a') && ((b == b') && (c == c')) with
    | false => rfl
    | true =>
      simp only [Bool.and_eq_true, beq_iff_eq] at h1
      exact absurd (by rw [h1.1, h1.2.1, h1.2.2]) h
theorem tagL_beq (x y : TagL) : ((x.1 == y.1) && (x.2 == y.2)) = decide (x = y) := by
  obtain ⟨a, b⟩ := x
  obtain ⟨a', b'⟩ := y
  by_cases h : ((a, b) : TagL) = (a', b')
  · rw [decide_eq_true h]
    simp only [Prod.mk.injEq] at h
    simp [h.1, h.2]
  · rw [decide_eq_false h]
    cases h1 : (a == a') && (b == b') with
    | false => rfl
    | true =>
      simp only [Bool.and_eq_true, beq_iff_eq] at h1
      exact absurd (by rw [h1.1, h1.2]) h
theorem refeq_decs (n : Nat) (X : Type) (k0 : List UInt8 → Int → List DecL → Int → List TagL → Int → List UInt8 → Int → List DecL → Int → List TagL → Int → Option X) (kr : Bool → List UInt8 → Int → List DecL → Int → List TagL → Int → List UInt8 → Int → List DecL → Int → List TagL → Int → Option X) (nm : List UInt8) (k : Int) (vs : List DecL) (r : Int) (ts : List TagL) (t : Int) (hs : vs.length ≤ 10000) : ∀ (j i m : Nat), i + j = vs.length → j < m →
    F.ref07_Equal.L4 n k0 kr m (i : Int) nm k vs r ts t nm k vs r ts t = k0 nm k vs r ts t nm k vs r ts t := by
  intro j
  induction j with
  | zero =>
    intro i m hi hm
    obtain ⟨m, rfl⟩ : ∃ q, m = q + 1 := ⟨m - 1, by omega⟩
    show F.ref07_Equal.L4.step n (F.ref07_Equal.L4 n k0 kr m) k0 kr _ _ _ _ _ _ _ _ _ _ _ _ _ = _
    unfold F.ref07_Equal.L4.step
    rw [bif_neg (by omega)]
  | succ j ih =>
    intro i m hi hm
    obtain ⟨m, rfl⟩ : ∃ q, m = q + 1 := ⟨m - 1, by omega⟩
    show F.ref07_Equal.L4.step n (F.ref07_Equal.L4 n k0 kr m) k0 kr _ _ _ _ _ _ _ _ _ _ _ _ _ = _
    unfold F.ref07_Equal.L4.step
    rw [bif_pos (by omega), idx_lt (by omega : i < vs.length), some_bind', some_bind', decL_beq, decide_eq_true rfl, Bool.not_true, cond_false, wrap_succ (by omega), ih (i + 1) m (by omega) (by omega)]
theorem refeq_tags (n : Nat) (X : Type) (k0 : List UInt8 → Int → List DecL → Int → List TagL → Int → List UInt8 → Int → List DecL → Int → List TagL → Int → Option X) (kr : Bool → List UInt8 → Int → List DecL → Int → List TagL → Int → List UInt8 → Int → List DecL → Int → List TagL → Int → Option X) (nm : List UInt8) (k : Int) (vs : List DecL) (r : Int) (ts : List TagL) (t : Int) (hs : ts.length ≤ 10000) : ∀ (j i m : Nat), i + j = ts.length → j < m →
    F.ref07_Equal.L9 n k0 kr m (i : Int) nm k vs r ts t nm k vs r ts t = k0 nm k vs r ts t nm k vs r ts t := by
  intro j
  induction j with
  | zero =>
    intro i m hi hm
    obtain ⟨m, rfl⟩ : ∃ q, m = q + 1 := ⟨m - 1, by omega⟩
    show F.ref07_Equal.L9.step n (F.ref07_Equal.L9 n k0 kr m) k0 kr _ _ _ _ _ _ _ _ _ _ _ _ _ = _
    unfold F.ref07_Equal.L9.step
    rw [bif_neg (by omega)]
  | succ j ih =>
    intro i m hi hm
    obtain ⟨m, rfl⟩ : ∃ q, m = q + 1 := ⟨m - 1, by omega⟩
    show F.ref07_Equal.L9.step n (F.ref07_Equal.L9 n k0 kr m) k0 kr _ _ _ _ _ _ _ _ _ _ _ _ _ = _
    unfold F.ref07_Equal.L9.step
    rw [bif_pos (by omega), idx_lt (by omega : i < ts.length), some_bind', some_bind', tagL_beq, decide_eq_true rfl, Bool.not_true, cond_false, wrap_succ (by omega), ih (i + 1) m (by omega) (by omega)]
theorem refequal_refl (n : Nat) (hn : 200000 ≤ n) (a : MetD) (h1 : a.2.2.1.length ≤ 10000) (h2 : a.2.2.2.2.1.length ≤ 10000) : F.ref07_Equal n a a = some true := by
  obtain ⟨nm, k, vs, r, ts, t, _⟩ := a
  simp only at h1 h2
  unfold F.ref07_Equal
  simp only [beq_self_eq_true, Bool.not_true, cond_false]
  refine (refeq_decs n Bool _ _ nm k vs r ts t h1 vs.length 0 n (by omega) (by omega)).trans ?_
  exact refeq_tags n Bool _ _ nm k vs r ts t h2 ts.length 0 n (by omega) (by omega)
end Go.AM
set_option linter.unusedVariables false
set_option linter.unusedSimpArgs false
namespace Go.AM
end Go.AM
set_option linter.unusedVariables false
set_option linter.unusedSimpArgs false
namespace Go.AM
section
variable {X : Type} (n : Nat) (rec : Int → Int → Bool → List UInt8 → Int → List DecL → Int → List TagL → Int → Int → Int → List UInt8 → Int → List DecL → Int → List TagL → Int → Int → Int → List UInt8 → Nat → Nat → Nat → Nat → Option X)
  (k0 kr : List UInt8 → Int → List DecL → Int → List TagL → Int → Int → Int → List UInt8 → Int → List DecL → Int → List TagL → Int → Int → Int → List UInt8 → Nat → Nat → Nat → Nat → Option X)
  (b0 : List UInt8) (b1 : Int) (b2 : List DecL) (b3 : Int) (b4 : List TagL) (b5 b6 b7 : Int) (nm : List UInt8) (kd : Int) (vs : List DecL) (rt : Int) (ts : List TagL) (tm c a : Int) (s : List UInt8) (i0 i1 i2 i3 : Nat)
end
end Go.AM
set_option linter.unusedVariables false
set_option linter.unusedSimpArgs false
namespace Go.AM
def lineG (m : MetD) : List UInt8 := m.1 ++ [32] ++ valL m.2.2.1 ++ [32] ++ Lib.decDigits m.2.2.2.2.2.1.toNat
def lineGR (m : MetD) : List UInt8 × Int × Unit := if expM m 3 = 0 then (lineG m, 0, ()) else ([], expM m 3, ())
theorem saidG_facts {m : MetD} (h : expM m 3 = 0) : ∃ nm d t, m = (nm, 2, [d], 1000000, [], t, ()) ∧ nameOK nm = true ∧ decC d = 0 ∧ 1 ≤ t ∧ t ≤ 1099511627776 := by
  obtain ⟨nm, k, vs, r, ts, t, _⟩ := m
  unfold expM at h
  rw [if_neg (by omega)] at h
  by_cases h0 : chkM (nm, k, vs, r, ts, t, ()) = 0
  · rw [if_pos h0] at h
    have hs : saysG (nm, k, vs, r, ts, t, ()) = true := by
      cases e : saysM (nm, k, vs, r, ts, t, ()) 3
      · rw [e] at h; cases h
      · exact e
    obtain ⟨c1, c2, c3, c4, c5, c6⟩ := chk_zero h0
    simp only at c1 c2 c3 c4 c5 c6
    unfold saysG at hs
    simp only [Bool.and_eq_true, Bool.not_eq_true', beq_iff_eq, beq_eq_false_iff_ne] at hs
    obtain ⟨hb, ht, hk⟩ := hs
    subst hk
    unfold bareM at hb
    simp only [Bool.and_eq_true, decide_eq_true_eq] at hb
    obtain ⟨hv, hg⟩ := hb
    have hg' : ts = [] := List.length_eq_zero_iff.1 hg
    subst hg'
    match vs, hv with
    | [d], _ =>
      unfold valsB at c3
      unfold rateB at c4
      unfold timeB at c6
      simp only [Bool.and_eq_true, decide_eq_true_eq, List.all_cons, List.all_nil, Bool.and_true, beq_iff_eq, Bool.or_eq_true, Bool.not_eq_true', beq_eq_false_iff_ne] at c3 c4 c6
      have hr : r = 1000000 := by
        rcases c4.2.2 with h | h
        · exact absurd rfl h
        · exact h
      subst hr
      exact ⟨nm, d, t, rfl, c1, c3.2.2, by omega, c6.2⟩
  · rw [if_neg h0] at h; exact absurd h h0
theorem dd_time {t : Int} (h1 : 1 ≤ t) (h2 : t ≤ 1099511627776) : (Lib.decDigits t.toNat).length ≤ 13 := dd_length_le (by omega) (by omega)
theorem lineG_eq (n : Nat) (hn : 200000 ≤ n) (m : MetD) (hm : MetOK m) : F.graphite_Line n m = some (lineGR m) := by
  unfold F.graphite_Line lineGR
  have he : F.expr_Metric n (m.1, m.2.1, m.2.2.1, m.2.2.2.1, m.2.2.2.2.1, m.2.2.2.2.2.1, ()) (3 : Int) = some (expM m 3) := expm_eq n hn m hm 3
  rw [he, some_bind']
  by_cases h0 : expM m 3 = 0
  · rw [if_pos h0]
    obtain ⟨nm, d, t, rfl, hnm, hd, t1, t2⟩ := saidG_facts h0
    have hdo : DecLOK d := hm.2.1.2 d (by simp)
    have hn1 := hm.1
    simp only at hn1
    have ht := textD_le hdo hd
    have hi : idx [d] (0 : Int) = some d := rfl
    have hnt : numText t = (Lib.decDigits t.toNat, 0, ()) := by unfold numText; rw [if_neg (by omega)]
    have hl := dd_time t1 t2
    rw [h0]
    simp only [some_bind', hi, decText_eq n hn hdo hd, text_num n t (by omega), hnt]
    unfold lineG valL
    simp only [beq_self_eq_true, Bool.not_true, cond_false]
    rw [bif_pos (by rw [strMax_eq]; omega), bif_pos (by rw [strMax_eq]; simp; omega), bif_pos (by rw [strMax_eq]; simp; omega), bif_pos (by rw [strMax_eq]; simp; omega)]
  · rw [beq_eq_false_iff_ne.2 h0, if_neg h0]; rfl
theorem lineG_le {m : MetD} (hm : MetOK m) (h : expM m 3 = 0) (hl : m.1.length ≤ 300) : (lineG m).length ≤ 400 := by
  obtain ⟨nm, d, t, rfl, hnm, hd, t1, t2⟩ := saidG_facts h
  have hdo : DecLOK d := hm.2.1.2 d (by simp)
  have h1 := textD_le hdo hd
  have h2 := dd_time t1 t2
  have h5 : valL [d] = textD d.1 d.2.1.toNat d.2.2 := rfl
  simp only at hl
  unfold lineG
  simp only [h5]
  simp
  omega
end Go.AM
set_option linter.unusedVariables false
set_option linter.unusedSimpArgs false
namespace Go.AM
def insD (t : TagL) : List TagL → List TagL
  | [] => [t]
  | x :: r => if ltT x t then x :: insD t r else if x = t then x :: r else t :: x :: r
def normT (l : List TagL) : List TagL := l.foldl (fun o t => insD t o) []
abbrev StrictT (l : List TagL) : Prop := l.Pairwise fun a b => ltT a b = true
theorem insD_mem (t : TagL) : ∀ (l : List TagL) (x : TagL), x ∈ insD t l ↔ x = t ∨ x ∈ l
  | [], x => by simp [insD]
  | y :: r, x => by
    unfold insD
    split
    · simp only [List.mem_cons, insD_mem t r x]
      constructor
      · rintro (h | h | h) <;> simp [h]
      · rintro (h | h | h) <;> simp [h]
    · split
      · rename_i e
        subst e
        simp only [List.mem_cons]
        constructor
        · rintro (h | h) <;> simp [h]
        · rintro (h | h | h) <;> simp [h]
      · simp only [List.mem_cons]
theorem insD_strict (t : TagL) : ∀ (l : List TagL), StrictT l → StrictT (insD t l)
  | [], _ => by simp [insD, StrictT]
  | y :: r, h => by
    obtain ⟨h1, h2⟩ := List.pairwise_cons.1 h
    unfold insD
    split
    · rename_i hy
      refine List.pairwise_cons.2 ⟨fun x hx => ?_, insD_strict t r h2⟩
      rcases (insD_mem t r x).1 hx with rfl | hx
      · exact hy
      · exact h1 x hx
    · rename_i hy
      split
      · exact h
      · rename_i hne
        have hty : ltT t y = true := by
          cases hc : ltT t y
          · exact absurd (ltT_total (by simpa using hy) hc) hne
          · rfl
        refine List.pairwise_cons.2 ⟨fun x hx => ?_, h⟩
        rcases List.mem_cons.1 hx with rfl | hx
        · exact hty
        · exact ltT_trans hty (h1 x hx)
theorem strict_unique : ∀ (a b : List TagL), StrictT a → StrictT b → (∀ x, x ∈ a ↔ x ∈ b) → a = b
  | [], [], _, _, _ => rfl
  | [], y :: b, _, _, h => by have := (h y).2 (by simp); cases this
  | x :: a, [], _, _, h => by have := (h x).1 (by simp); cases this
  | x :: a, y :: b, ha, hb, h => by
    obtain ⟨h1, h2⟩ := List.pairwise_cons.1 ha
    obtain ⟨h3, h4⟩ := List.pairwise_cons.1 hb
    have e : x = y := by
      rcases List.mem_cons.1 ((h x).1 (by simp)) with e | e
      · exact e
      · rcases List.mem_cons.1 ((h y).2 (by simp)) with e' | e'
        · exact e'.symm
        · have := ltT_asymm (h1 y e'); rw [h3 x e] at this; cases this
    subst e
    rw [strict_unique a b h2 h4 (fun z => ?_)]
    have hx := h z
    simp only [List.mem_cons] at hx
    constructor
    · intro hz
      rcases hx.1 (Or.inr hz) with rfl | h'
      · have := h1 _ hz; rw [ltT_irrefl] at this; cases this
      · exact h'
    · intro hz
      rcases hx.2 (Or.inr hz) with rfl | h'
      · have := h3 _ hz; rw [ltT_irrefl] at this; cases this
      · exact h'
theorem normT_fold : ∀ (l o : List TagL), StrictT o → StrictT (l.foldl (fun o t => insD t o) o) ∧ ∀ x, x ∈ l.foldl (fun o t => insD t o) o ↔ x ∈ o ∨ x ∈ l
  | [], o, h => ⟨h, fun x => by simp⟩
  | t :: l, o, h => by
    obtain ⟨h1, h2⟩ := normT_fold l (insD t o) (insD_strict t o h)
    refine ⟨h1, fun x => ?_⟩
    rw [List.foldl_cons, h2 x, insD_mem, List.mem_cons]
    constructor
    · rintro ((h | h) | h) <;> simp [h]
    · rintro (h | h | h) <;> simp [h]
theorem normT_strict (l : List TagL) : StrictT (normT l) := (normT_fold l [] List.Pairwise.nil).1
theorem normT_mem (l : List TagL) (x : TagL) : x ∈ normT l ↔ x ∈ l := by
  unfold normT; rw [(normT_fold l [] List.Pairwise.nil).2 x]; simp
theorem normT_id {l : List TagL} (h : StrictT l) : normT l = l :=
  strict_unique _ _ (normT_strict l) h (fun x => normT_mem l x)
theorem insD_len (t : TagL) : ∀ l, (insD t l).length ≤ l.length + 1
  | [] => by simp [insD]
  | y :: r => by
    unfold insD
    have := insD_len t r
    split
    · simp; omega
    · split <;> simp
theorem normT_len (l : List TagL) : (normT l).length ≤ l.length := by
  have : ∀ (l o : List TagL), (l.foldl (fun o t => insD t o) o).length ≤ o.length + l.length := by
    intro l
    induction l with
    | nil => intro o; simp
    | cons t l ih => intro o; have h1 := ih (insD t o); have h2 := insD_len t o; simp only [List.foldl_cons, List.length_cons]; omega
  have h := this l []
  simp only [List.length_nil, Nat.zero_add] at h
  exact h
def dedF (D : List TagL) (t : TagL) : List TagL := if D.getLast? = some t then D else D ++ [t]
theorem dedF_fold : ∀ (s D : List TagL), SortedT s → StrictT D → (∀ a ∈ D, ∀ b ∈ s, ltT b a = false) → StrictT (s.foldl dedF D) ∧ ∀ x, x ∈ s.foldl dedF D ↔ x ∈ D ∨ x ∈ s
  | [], D, _, h, _ => ⟨h, fun x => by simp⟩
  | t :: s, D, hs, hD, hb => by
    obtain ⟨h1, h2⟩ := List.pairwise_cons.1 hs
    have key : StrictT (dedF D t) ∧ (∀ x, x ∈ dedF D t ↔ x ∈ D ∨ x = t) := by
      unfold dedF
      split
      · rename_i e
        have ht : t ∈ D := List.mem_of_getLast? e
        exact ⟨hD, fun x => ⟨Or.inl, fun h => h.elim id (fun e => e ▸ ht)⟩⟩
      · rename_i e
        refine ⟨?_, fun x => by simp⟩
        refine List.pairwise_append.2 ⟨hD, List.pairwise_singleton _ _, fun a ha b hb' => ?_⟩
        rw [List.mem_singleton.1 hb']
        have h0 := hb a ha t (by simp)
        cases hc : ltT a t
        · exfalso
          have : a = t := ltT_total hc h0
          subst this
          apply e
          have : ∀ (D : List TagL), StrictT D → (∀ x ∈ D, ltT a x = false) → a ∈ D → D.getLast? = some a := by
            intro D
            induction D with
            | nil => intro _ _ h; cases h
            | cons y D ih =>
              intro hp hm hin
              obtain ⟨p1, p2⟩ := List.pairwise_cons.1 hp
              cases D with
              | nil => rcases List.mem_cons.1 hin with rfl | h
                       · rfl
                       · cases h
              | cons z D =>
                rw [List.getLast?_cons_cons]
                refine ih p2 (fun x hx => hm x (List.mem_cons_of_mem _ hx)) ?_
                rcases List.mem_cons.1 hin with rfl | h
                · have := p1 z (by simp); rw [hm z (by simp)] at this; cases this
                · exact h
          exact this D hD (fun x hx => hb x hx a (by simp)) ha
        · rfl
    obtain ⟨k1, k2⟩ := key
    obtain ⟨f1, f2⟩ := dedF_fold s (dedF D t) h2 k1 (fun a ha b hb' => by
      rcases (k2 a).1 ha with ha | rfl
      · exact hb a ha b (List.mem_cons_of_mem _ hb')
      · exact h1 b hb')
    refine ⟨f1, fun x => ?_⟩
    rw [List.foldl_cons, f2 x, k2 x, List.mem_cons]
    constructor
    · rintro ((h | h) | h) <;> simp [h]
    · rintro (h | h | h) <;> simp [h]
theorem ded_norm (l : List TagL) : (sortTags l).foldl dedF [] = normT l := by
  obtain ⟨h1, h2⟩ := dedF_fold (sortTags l) [] (sortTags_sorted l) List.Pairwise.nil (fun a ha => by cases ha)
  refine strict_unique _ _ h1 (normT_strict l) (fun x => ?_)
  rw [h2 x, normT_mem, (sortTags_perm l).mem_iff]; simp
theorem upd_set {α : Type} : ∀ (l : List α) (k : Nat) (x : α), upd l k x = l.set k x
  | [], _, _ => rfl
  | _ :: l, 0, _ => rfl
  | _ :: l, k + 1, x => by simp [upd, upd_set l k x]
end Go.AM
set_option linter.unusedVariables false
set_option linter.unusedSimpArgs false
namespace Go.AM
theorem getLast_take {α : Type} {L D : List α} {k : Nat} (h : L.take D.length = D) (hk : D.length = k + 1) : L[k]? = D.getLast? := by
  rw [List.getLast?_eq_getElem?]
  have : D[D.length - 1]? = (L.take D.length)[D.length - 1]? := by rw [h]
  rw [this, hk, List.getElem?_take]
  simp
theorem take_set {α : Type} {L D : List α} (x : α) (h : L.take D.length = D) (hk : D.length < L.length) : (L.set D.length x).take (D ++ [x]).length = D ++ [x] := by
  rw [List.length_append, List.length_singleton, List.take_add_one, List.take_set_of_le (Nat.le_refl _), h]
  simp [hk]
theorem drop_set {α : Type} (L : List α) (i k : Nat) (x : α) (h : i ≤ k) : (L.set i x).drop (k + 1) = L.drop (k + 1) := List.drop_set_of_lt (by omega)
theorem norm_loop (n : Nat) (X : Type) (k0 : (Nat × Nat) → Int → (Nat × List TagL) → (Nat × List TagL) → (Nat × List TagL) → Option X) (v N : Nat) (hN : N ≤ 100000) (b0 b1 : Nat × List TagL) :
    ∀ (r D L : List TagL) (i m : Nat), L.drop i = r → i ≤ N → r.length < m → D.length ≤ i → (i = 0 ↔ D = []) → L.length = N → L.take D.length = D →
    ∃ L', L'.take (r.foldl dedF D).length = r.foldl dedF D ∧ L'.length = N ∧ F.tag_Normal.L5 n k0 m (v, N) (D.length : Int) (v, N) (N : Int) (i : Int) b0 b1 (v, L) = k0 (v, N) ((r.foldl dedF D).length : Int) b0 b1 (v, L') := by
  intro r
  induction r with
  | nil =>
    intro D L i m hr hi hm hD h0 hL hT
    obtain ⟨m, rfl⟩ : ∃ p, m = p + 1 := ⟨m - 1, by omega⟩
    refine ⟨L, hT, hL, ?_⟩
    rw [F.tag_Normal.L5]
    unfold F.tag_Normal.L5.step
    dsimp only
    rw [bif_neg (by have := drop_nil' hr; omega)]
    rfl
  | cons x r ih =>
    intro D L i m hr hi hm hD h0 hL hT
    obtain ⟨m, rfl⟩ : ∃ p, m = p + 1 := ⟨m - 1, by simp at hm; omega⟩
    obtain ⟨l1, g1, t1⟩ := drop_cons hr
    have hw : IntKind.wrap .i64 ((D.length : Int) + 1) = ((D.length + 1 : Nat) : Int) := wrap_succ (by omega)
    have hput : ∃ L', L'.take (r.foldl dedF (D ++ [x])).length = r.foldl dedF (D ++ [x]) ∧ L'.length = N ∧ F.tag_Normal.L5 n k0 m (v, N) (((D ++ [x]).length : Nat) : Int) (v, N) (N : Int) ((i + 1 : Nat) : Int) b0 b1 (v, L.set D.length x) = k0 (v, N) ((r.foldl dedF (D ++ [x])).length : Int) b0 b1 (v, L') :=
      ih (D ++ [x]) (L.set D.length x) (i + 1) m (by rw [drop_set L D.length i x hD]; exact t1) (by omega) (by simp at hm; omega) (by simp; omega) (by simp) (by simpa using hL) (take_set x hT (by omega))
    rw [F.tag_Normal.L5]
    unfold F.tag_Normal.L5.step
    dsimp only
    rw [List.foldl_cons]
    have hb1 : (decide ((0 : Int) ≤ (i : Int)) && decide ((i : Int) < (N : Int))) = true := by simp; omega
    have hb2 : (decide ((0 : Int) ≤ (D.length : Int)) && decide ((D.length : Int) < (N : Int))) = true := by simp; omega
    have hbe : Nat.beq v v = true := Nat.beq_refl v
    rw [bif_pos (by omega : (i : Int) < (N : Int)), hb1, hbe, cond_true, cond_true, idx_nat, g1, some_bind', wrap_succ (by omega : i < 4611686018427387904)]
    by_cases hi0 : i = 0
    · have hD0 := h0.1 hi0
      have e0 : ((i : Int) == 0) = true := by simp [hi0]
      rw [e0, cond_true, hb2, cond_true, cond_true, idx_lt (by omega : D.length < L.length), some_bind', hw, Int.toNat_natCast, upd_set]
      have hd : dedF D x = D ++ [x] := by rw [hD0]; rfl
      rw [hd]
      obtain ⟨L', q1, q2, q3⟩ := hput
      refine ⟨L', q1, q2, ?_⟩
      rw [← q3, List.length_append, List.length_singleton]
    · have e0 : ((i : Int) == 0) = false := by simpa using hi0
      have hne : D ≠ [] := fun h => hi0 (h0.2 h)
      have hpos : 0 < D.length := List.length_pos_iff.2 hne
      have hwp : IntKind.wrap .i64 ((D.length : Int) - 1) = ((D.length - 1 : Nat) : Int) := by rw [wrap_in (by omega)]; omega
      have hb3 : (decide ((0 : Int) ≤ ((D.length - 1 : Nat) : Int)) && decide (((D.length - 1 : Nat) : Int) < (N : Int))) = true := by simp; omega
      obtain ⟨y, hy⟩ : ∃ y, D.getLast? = some y := ⟨_, List.getLast?_eq_some_getLast hne⟩
      have gl : L[D.length - 1]? = some y := by rw [getLast_take hT (by omega), hy]
      rw [e0, cond_false, hwp, hb3, cond_true, cond_true, idx_nat, gl, some_bind', tagL_beq]
      by_cases hxy : x = y
      · rw [decide_eq_true hxy, Bool.not_true, cond_false]
        have hd : dedF D x = D := by unfold dedF; rw [hy, hxy, if_pos rfl]
        rw [hd]
        exact ih D L (i + 1) m t1 (by omega) (by simp at hm; omega) (by omega) (by simp [hne]) hL hT
      · rw [decide_eq_false hxy, Bool.not_false, cond_true, hb2, cond_true, cond_true, idx_lt (by omega : D.length < L.length), some_bind', hw, Int.toNat_natCast, upd_set]
        have hd : dedF D x = D ++ [x] := by unfold dedF; rw [hy, if_neg (by simpa using fun h : y = x => hxy h.symm)]
        rw [hd]
        obtain ⟨L', q1, q2, q3⟩ := hput
        refine ⟨L', q1, q2, ?_⟩
        rw [← q3, List.length_append, List.length_singleton]
theorem clip_eq (n : Nat) (l : List TagL) : F.slices_Clip_api_Tag_api_Tag n l = some l := by
  unfold F.slices_Clip_api_Tag_api_Tag
  rw [beq_self_eq_true, cond_true, show (0 : Int) = ((0 : Nat) : Int) from rfl, sub_nat l 0 l.length (by omega) (by omega)]
  simp
theorem norm_out (n : Nat) (hn : 200000 ≤ n) (l : List TagL) (hl : l.length ≤ 100000) (v : Nat) (b0 b1 : Nat × List TagL) :
    F.tag_Normal.L5 n (fun (e11_3 : Nat × Nat) (e11_4 : Int) (e11_b0_0 e11_b1_0 e11_b2_0 : Nat × List TagL) =>
          bif Nat.beq e11_3.1 e11_b2_0.1 then
            (sub e11_b2_0.2 (0 : Int) e11_4).bind fun x12 =>
              (F.slices_Clip_api_Tag_api_Tag n x12).bind fun y13 =>
                some (y13)
          else
            none) n (v, l.length) (0 : Int) (v, l.length) (l.length : Int) (0 : Int) b0 b1 (v, sortTags l) = some (normT l) := by
  obtain ⟨L', q1, q2, q3⟩ := norm_loop n _ (fun (e11_3 : Nat × Nat) (e11_4 : Int) (e11_b0_0 e11_b1_0 e11_b2_0 : Nat × List TagL) =>
          bif Nat.beq e11_3.1 e11_b2_0.1 then
            (sub e11_b2_0.2 (0 : Int) e11_4).bind fun x12 =>
              (F.slices_Clip_api_Tag_api_Tag n x12).bind fun y13 =>
                some (y13)
          else
            none) v l.length hl b0 b1 (sortTags l) [] (sortTags l) 0 n rfl (by omega) (by rw [sortTags_length]; omega) (by simp) (by simp) (sortTags_length l) rfl
  refine q3.trans ?_
  rw [ded_norm] at q1 ⊢
  dsimp only
  rw [Nat.beq_refl, cond_true, show (0 : Int) = ((0 : Nat) : Int) from rfl, sub_nat L' 0 _ (by omega) (by rw [q2]; exact normT_len l), q1]
  simp only [some_bind', List.drop_zero, clip_eq]
theorem tagNormal_eq (n : Nat) (hn : 200000 ≤ n) (l : List TagL) (hl : l.length ≤ 100000) : F.tag_Normal n l = some (normT l) := by
  have e1 : (decide ((0 + l.length) * 32 ≤ 2 ^ 46) && decide (0 < 32 ∧ 32 ≤ 2 ^ 20)) = true := by
    rw [decide_eq_true (by omega)]; rfl
  have e2 : ∀ l : List TagL, l.length ≤ 100000 → (Nat.beq (sortTags l).length l.length && Nat.blt l.length strMax) = true := by
    intro l hl
    rw [sortTags_length, Nat.beq_refl, Bool.true_and, strMax_eq]
    exact Nat.ble_eq ▸ (by omega : l.length + 1 ≤ 4611686018427387904)
  unfold F.tag_Normal
  rw [List.nil_append, e1, cond_true, e2 l hl, cond_true]
  cases l with
  | nil =>
    have h1 := norm_out n hn [] (by simp) 1 (1, []) (1, [])
    have h2 := norm_out n hn [] (by simp) 2 (1, []) (1, [])
    refine Eq.trans (b := both (some (normT [])) (some (normT []))) ?_ (both_same _)
    rw [List.isEmpty_nil, cond_true]
    congr 1
  | cons t l =>
    exact norm_out n hn (t :: l) hl 2 (1, []) (1, [])
end Go.AM
set_option linter.unusedVariables false
set_option linter.unusedSimpArgs false
namespace Go.AM
theorem valR_cases {d : List UInt8} (hD : Digs d) (neg : Bool) (E : Int) : ((valR neg d E).2.1 = 10 ∧ (valR neg d E).1 = (false, 0, 0, ())) ∨
    (∃ (neg' : Bool) (c : Nat) (e : Int), valR neg d E = ((neg', (c : Int), e, ()), 0, ()) ∧ c < two64 ∧ (-9223372036854775808 ≤ e ∧ e ≤ 9223372036854775807) ∧ checkR neg' c e = 0) := by
  by_cases hv : val d = 0
  · refine Or.inr ⟨false, 0, 0, ?_, by decide, by omega, ?_⟩
    · have : valR neg d E = zeroD := by unfold valR; rw [if_pos hv]
      rw [this]; rfl
    · have d0 : Lib.decDigits 0 = [48] := dd_small (by omega)
      unfold checkR
      rw [d0]; rfl
  · obtain ⟨c0, z, h1, h2⟩ := ten_split (val d) (by omega)
    rw [valR_core hD h2 h1]
    generalize E + (z : Int) = Y
    by_cases hY : Y < -18
    · refine Or.inl ?_
      have : normR neg c0 Y = ((false, 0, 0, ()), 10, ()) := by unfold normR; rw [if_pos hY]
      rw [this]
      exact ⟨rfl, rfl⟩
    · by_cases hf : c0 * 10 ^ (Y - 18).toNat < two64
      · have e1 : normR neg c0 Y = ((neg, ((c0 * 10 ^ (Y - 18).toNat : Nat) : Int), (if Y ≤ 18 then Y else 18), ()), 0, ()) := by unfold normR; rw [if_neg hY, if_pos hf]
        rw [e1]
        have hE : -18 ≤ (if Y ≤ 18 then Y else 18) ∧ (if Y ≤ 18 then Y else 18) ≤ 18 := by split <;> omega
        refine Or.inr ⟨neg, c0 * 10 ^ (Y - 18).toNat, (if Y ≤ 18 then Y else 18), rfl, hf, by omega, ?_⟩
        unfold checkR
        rw [if_neg (by omega), valR_core (dd_digs _) h2 (dd_val _)]
        have e2 : (if Y ≤ 18 then Y else 18) + (((Y - 18).toNat : Nat) : Int) = Y := by split <;> omega
        rw [e2, e1, if_pos ⟨rfl, rfl⟩]
      · refine Or.inl ?_
        have : normR neg c0 Y = ((false, 0, 0, ()), 10, ()) := by unfold normR; rw [if_neg hY, if_neg hf]
        rw [this]
        exact ⟨rfl, rfl⟩
def decV (d : DecL) : DecR := valR d.1 (Lib.decDigits d.2.1.toNat) d.2.2
def valOK (d : DecL) : Bool := (decV d).2.1 == 0
def refV (d : DecL) : DecL := ((decV d).1.1, (decV d).1.2.1, (decV d).1.2.2.1)
def normV (d : DecL) : DecL := if valOK d then refV d else d
theorem decV_eq (n : Nat) (hn : 100 ≤ n) {d : DecL} (h : DecLOK d) : F.dec_Normal n (d.1, d.2.1, d.2.2, ()) = some (decV d) := by
  obtain ⟨neg, c, e, rfl, hc, he⟩ := decL_nat h
  exact normal_eq n hn neg c hc e he
theorem normV_pos {d : DecL} (h : valOK d = true) : normV d = refV d ∧ decC (normV d) = 0 ∧ DecLOK (normV d) := by
  have e : normV d = refV d := by unfold normV; rw [if_pos h]
  refine ⟨e, ?_⟩
  rw [e]
  unfold refV
  unfold valOK at h
  rcases valR_cases (dd_digs d.2.1.toNat) d.1 d.2.2 with ⟨h1, _⟩ | ⟨neg, c, e, h1, h2, h3, h4⟩
  · exfalso
    have h1 : (decV d).2.1 = 10 := h1
    rw [h1] at h; cases h
  · have h1 : decV d = ((neg, (c : Int), e, ()), 0, ()) := h1
    rw [h1]
    refine ⟨h4, trivial, ⟨by simp, ?_⟩, h3⟩
    have := two64_eq; simp only; omega
theorem normV_neg {d : DecL} (hd : DecLOK d) (h : valOK d = false) : normV d = d ∧ decC d ≠ 0 := by
  refine ⟨by unfold normV; rw [if_neg (by rw [h]; simp)], fun h0 => ?_⟩
  obtain ⟨neg, c, e, rfl, hc, he⟩ := decL_nat hd
  have hh : decV (neg, (c : Int), e) = ((neg, (c : Int), e, ()), 0, ()) := (check_zero h0).1
  unfold valOK at h
  rw [hh] at h
  cases h
theorem normV_id {d : DecL} (hd : DecLOK d) (h0 : decC d = 0) : valOK d = true ∧ normV d = d := by
  obtain ⟨neg, c, e, rfl, hc, he⟩ := decL_nat hd
  have hv := (check_zero h0).1
  have h1 : decV (neg, (c : Int), e) = ((neg, (c : Int), e, ()), 0, ()) := hv
  have h2 : valOK (neg, (c : Int), e) = true := by unfold valOK; rw [h1]; rfl
  refine ⟨h2, ?_⟩
  unfold normV refV
  rw [if_pos h2, h1]
theorem normV_ok {d : DecL} (hd : DecLOK d) : DecLOK (normV d) := by
  cases h : valOK d
  · rw [(normV_neg hd h).1]; exact hd
  · exact (normV_pos h).2.2
def zeroM : MetD := ([], (0 : Int), [], (0 : Int), [], (0 : Int), ())
def valsM (m : MetD) : MetD := (m.1, m.2.1, m.2.2.1.map normV, m.2.2.2.1, m.2.2.2.2.1, m.2.2.2.2.2.1, ())
def formM (m : MetD) : MetD := (m.1, m.2.1, m.2.2.1.map normV, m.2.2.2.1, normT m.2.2.2.2.1, m.2.2.2.2.2.1, ())
def normM (m : MetD) : MetD × Int × Unit := if chkM (valsM m) = 0 then (formM m, 0, ()) else (zeroM, chkM (valsM m), ())
theorem valsM_ok {m : MetD} (hm : MetOK m) : MetOK (valsM m) := by
  refine ⟨hm.1, ⟨by rw [valsM]; simpa using hm.2.1.1, fun d hd => ?_⟩, hm.2.2⟩
  obtain ⟨x, hx, rfl⟩ := List.mem_map.1 hd
  exact normV_ok (hm.2.1.2 x hx)
theorem upd_at {α : Type} (p r : List α) (x y : α) : upd (p ++ x :: r) p.length y = p ++ y :: r := by
  rw [upd_set, List.set_append_right _ _ (Nat.le_refl _), Nat.sub_self]; rfl
theorem metn_loop (n : Nat) (hn : 200000 ≤ n) (X : Type) (k0 : (Nat × Nat) → List UInt8 → Int → List DecL → Int → List TagL → Int → List UInt8 → Int → List DecL → Int → List TagL → Int → (Nat × List DecL) → (Nat × List DecL) → Nat → Nat → Option X)
    (b00 : List UInt8) (b01 : Int) (b02 : List DecL) (b03 : Int) (b04 : List TagL) (b05 : Int) (b10 : List UInt8) (b11 : Int) (b12 : List DecL) (b13 : Int) (b14 : List TagL) (b15 : Int) (b2 : Nat × List DecL) (k1 k2 : Nat) (v N : Nat) (hN : N ≤ 10000) :
    ∀ (r p : List DecL) (i m : Nat), i + r.length = N → p.length = i → r.length < m → (∀ d ∈ r, DecLOK d) →
    F.metric_Normal.L3 n k0 m (v, N) (v, N) (N : Int) (i : Int) b00 b01 b02 b03 b04 b05 b10 b11 b12 b13 b14 b15 b2 (v, p ++ r) k1 k2 = k0 (v, N) b00 b01 b02 b03 b04 b05 b10 b11 b12 b13 b14 b15 b2 (v, p ++ r.map normV) k1 k2 := by
  intro r
  induction r with
  | nil =>
    intro p i m h1 h2 hm hok
    obtain ⟨m, rfl⟩ : ∃ q, m = q + 1 := ⟨m - 1, by omega⟩
    rw [F.metric_Normal.L3]
    unfold F.metric_Normal.L3.step
    dsimp only
    rw [bif_neg (by simp at h1; omega)]
    rfl
  | cons x r ih =>
    intro p i m h1 h2 hm hok
    obtain ⟨m, rfl⟩ : ∃ q, m = q + 1 := ⟨m - 1, by simp at hm; omega⟩
    simp only [List.length_cons] at h1 hm
    have hx := hok x (by simp)
    have hp : (p ++ x :: r)[i]? = some x := by rw [← h2]; simp
    have hb1 : (decide ((0 : Int) ≤ (i : Int)) && decide ((i : Int) < (N : Int))) = true := by simp; omega
    rw [F.metric_Normal.L3]
    unfold F.metric_Normal.L3.step
    dsimp only
    rw [bif_pos (by omega : (i : Int) < (N : Int)), hb1, Nat.beq_refl, cond_true, cond_true, idx_nat, hp, some_bind', decV_eq n (by omega) hx, some_bind', wrap_succ (by omega)]
    have step : ∀ y, y = normV x → F.metric_Normal.L3 n k0 m (v, N) (v, N) (N : Int) ((i + 1 : Nat) : Int) b00 b01 b02 b03 b04 b05 b10 b11 b12 b13 b14 b15 b2 (v, p ++ y :: r) k1 k2 = k0 (v, N) b00 b01 b02 b03 b04 b05 b10 b11 b12 b13 b14 b15 b2 (v, p ++ (x :: r).map normV) k1 k2 := by
      intro y hy
      have := ih (p ++ [y]) (i + 1) m (by omega) (by simp; omega) (by omega) (fun d hd => hok d (List.mem_cons_of_mem _ hd))
      rw [List.append_assoc, List.append_assoc, List.singleton_append, List.singleton_append] at this
      rw [this, hy, List.map_cons]
    cases hv : valOK x
    · have hv' : ((decV x).2.1 == 0) = false := hv
      rw [hv', cond_false]
      exact step x (normV_neg hx hv).1.symm
    · have hv' : ((decV x).2.1 == 0) = true := hv
      rw [hv', cond_true, cond_true, cond_true, some_bind', Int.toNat_natCast, ← h2, upd_at, h2]
      exact step _ (normV_pos hv).1.symm
theorem metn_out (n : Nat) (hn : 200000 ≤ n) (m : MetD) (hm : MetOK m) (v : Nat) (b10 : List UInt8) (b11 : Int) (b12 : List DecL) (b13 : Int) (b14 : List TagL) (b15 : Int) (b2 : Nat × List DecL) (k1 k2 : Nat) :
    F.metric_Normal.L3 n
          (fun e4_4 e4_b0_0 e4_b0_1 e4_b0_2 e4_b0_3 e4_b0_4 e4_b0_5 e4_b1_0 e4_b1_1 e4_b1_2 e4_b1_3 e4_b1_4 e4_b1_5 e4_b2_0 e4_b3_0 e4_k0 e4_k1 =>
            bif Nat.beq e4_4.1 e4_b3_0.1 then
              (F.metric_Check n (e4_b0_0, e4_b0_1, e4_b3_0.2, e4_b0_3, e4_b0_4, e4_b0_5, ())).bind fun y5 =>
                bif !(y5 == (0 : Int)) then
                  some ((([], (0 : Int), [], (0 : Int), [], (0 : Int), ()), y5, ()))
                else
                  (F.tag_Normal n e4_b0_4).bind fun y6 =>
                    some (((e4_b0_0, e4_b0_1, e4_b3_0.2, e4_b0_3, y6, e4_b0_5, ()), (0 : Int), ()))
            else
              none) n (v, m.2.2.1.length) (v, m.2.2.1.length) (m.2.2.1.length : Int) (0 : Int) m.1 m.2.1 m.2.2.1 m.2.2.2.1 m.2.2.2.2.1 m.2.2.2.2.2.1 b10 b11 b12 b13 b14 b15 b2 (v, m.2.2.1) k1 k2 = some (normM m) := by
  refine (metn_loop n hn _ _ m.1 m.2.1 m.2.2.1 m.2.2.2.1 m.2.2.2.2.1 m.2.2.2.2.2.1 b10 b11 b12 b13 b14 b15 b2 k1 k2 v m.2.2.1.length (by have := hm.2.1.1; omega) m.2.2.1 [] 0 n (by omega) rfl (by have := hm.2.1.1; omega) hm.2.1.2).trans ?_
  dsimp only
  rw [Nat.beq_refl, cond_true]
  have hc : F.metric_Check n (m.1, m.2.1, [] ++ m.2.2.1.map normV, m.2.2.2.1, m.2.2.2.2.1, m.2.2.2.2.2.1, ()) = some (chkM (valsM m)) := metcheck_eq n hn (valsM m) (valsM_ok hm)
  rw [hc, some_bind']
  unfold normM
  by_cases h : chkM (valsM m) = 0
  · rw [if_pos h, h, tagNormal_eq n hn _ (by have := hm.2.2.1; omega)]
    rfl
  · rw [if_neg h, beq_eq_false_iff_ne.2 h]
    rfl
theorem metNormal_eq (n : Nat) (hn : 200000 ≤ n) (m : MetD) (hm : MetOK m) : F.metric_Normal n m = some (normM m) := by
  have hl := hm.2.1.1
  have e1 : (decide ((0 + m.2.2.1.length) * 24 ≤ 2 ^ 46) && decide (0 < 24 ∧ 24 ≤ 2 ^ 20)) = true := by
    rw [decide_eq_true (by omega)]; rfl
  unfold F.metric_Normal
  rw [e1, cond_true]
  have h2 := metn_out n hn m hm 2 [] 0 [] 0 [] 0 (1, []) 0 0
  cases hv : m.2.2.1 with
  | nil =>
    have h1 := metn_out n hn m hm 1 [] 0 [] 0 [] 0 (1, []) 0 0
    rw [hv] at h1 h2
    refine Eq.trans (b := both (some (normM m)) (some (normM m))) ?_ (both_same _)
    rw [List.isEmpty_nil, cond_true]
    exact congr (congrArg both h1) h2
  | cons d vs =>
    rw [hv] at h2
    exact h2
end Go.AM
set_option linter.unusedVariables false
set_option linter.unusedSimpArgs false
namespace Go.AM
def TagS (t : TagL) : Prop := t.1.length ≤ 1000 ∧ t.2.length ≤ 1000
theorem textF_zero {c : Int} {s : List UInt8} {lo hi : Int} (h : (textF c s lo hi).1 = 0) : lo ≤ (s.length : Int) ∧ (s.length : Int) ≤ hi ∧ s.all (cls c) = true := by
  unfold textF at h
  split at h
  · cases h
  · split at h
    · cases h
    · split at h
      · cases h
      · split at h
        · cases h
        · rename_i h1 h2 h3 h4
          exact ⟨by omega, by omega, Classical.byContradiction fun hh => h4 ((badK_ge _ _ _).2 hh)⟩
theorem tagGood_le {t : TagL} (h : tagGood t = true) : TagS t := by
  unfold tagGood at h
  simp only [Bool.and_eq_true, beq_iff_eq] at h
  have h1 := textF_zero h.1
  have h2 := textF_zero h.2
  exact ⟨by omega, by omega⟩
theorem growS {X : Type} {a b : Nat} (h : a + b ≤ 1000000) (y : Option X) : (bif decide (a + b ≤ strMax) then y else none) = y := by
  rw [decide_eq_true (by rw [strMax_eq]; omega)]; rfl
theorem growB {X : Type} {a b : Nat} (h : a + b ≤ 1000000) (y : Option X) : (bif decide ((a + b) * 1 ≤ 2 ^ 46) && decide (0 < 1 ∧ 1 ≤ 2 ^ 20) then y else none) = y := by
  rw [decide_eq_true (by omega)]; rfl
theorem growL {X : Type} {a : Nat} (h : a ≤ 1000000) (y : Option X) : (bif decide ((a + 1) * 16 ≤ 2 ^ 46) && decide (0 < 16 ∧ 16 ≤ 2 ^ 20) then y else none) = y := by
  rw [decide_eq_true (by omega)]; rfl
def wordT (k : Int) : List UInt8 := if k = 1 then [99] else if k = 2 then [103] else if k = 3 then [109, 115] else if k = 4 then [104] else if k = 5 then [100] else []
theorem word_eq (n : Nat) (k : Int) : F.dog_Word n k = some (if kindB k then (wordT k, 0, ()) else ([], 16, ())) := by
  unfold F.dog_Word
  by_cases h1 : k < 1
  · have : kindB k = false := by unfold kindB; rw [decide_eq_false (by omega)]; rfl
    rw [bif_pos h1, this]; rfl
  · rw [bif_neg h1]
    by_cases h2 : k > 5
    · have : kindB k = false := by unfold kindB; rw [decide_eq_false (by omega : ¬ k ≤ 5), Bool.and_false]
      rw [bif_pos h2, this]; rfl
    · have hk : k = 1 ∨ k = 2 ∨ k = 3 ∨ k = 4 ∨ k = 5 := by omega
      rw [bif_neg h2]
      rcases hk with rfl | rfl | rfl | rfl | rfl <;> rfl
theorem word_short (k : Int) : (wordT k).length ≤ 2 := by
  unfold wordT; repeat' split
  all_goals decide
def textL (d : DecL) : List UInt8 := textD d.1 d.2.1.toNat d.2.2
def valsT (vs : List DecL) : List UInt8 := (vs.map fun d => 58 :: textL d).flatten
def oneT (t : TagL) : List UInt8 := if t.2 = [] then t.1 else t.1 ++ ([58] ++ t.2)
def tagText (ts : List TagL) : List UInt8 := Lib.join (ts.map oneT) [44]
def rateP (r : Int) : List UInt8 := if r = 1000000 then [] else [124, 64] ++ (rateText r).1
def tagsP (ts : List TagL) : List UInt8 := if ts = [] then [] else [124, 35] ++ tagText ts
def timeP (t : Int) : List UInt8 := if t = 0 then [] else [124, 84] ++ Lib.decDigits t.toNat
def lineD (m : MetD) : List UInt8 := m.1 ++ valsT m.2.2.1 ++ ([124] ++ wordT m.2.1) ++ rateP m.2.2.2.1 ++ tagsP m.2.2.2.2.1 ++ timeP m.2.2.2.2.2.1
theorem valsT_le {vs : List DecL} (h : ∀ d ∈ vs, DecLOK d ∧ decC d = 0) : (valsT vs).length ≤ 40 * vs.length := by
  induction vs with
  | nil => simp [valsT]
  | cons d vs ih =>
    have := textD_le (h d (by simp)).1 (h d (by simp)).2
    have h2 := ih (fun x hx => h x (List.mem_cons_of_mem _ hx))
    have e : (valsT (d :: vs)).length = (textL d).length + 1 + (valsT vs).length := by simp [valsT]; omega
    have e2 : (textL d).length ≤ 39 := this
    simp only [List.length_cons]
    omega
theorem oneT_le {t : TagL} (h : TagS t) : (oneT t).length ≤ 2001 := by
  unfold oneT
  have := h.1; have := h.2
  split <;> simp <;> omega
theorem join_le (sep : List UInt8) (b : Nat) : ∀ l : List (List UInt8), (∀ x ∈ l, x.length ≤ b) → (Lib.join l sep).length ≤ l.length * (b + sep.length) := by
  intro l h
  cases l with
  | nil => simp [Lib.join]
  | cons x l =>
    rw [Lib.join_cons]
    have : ∀ l : List (List UInt8), (∀ x ∈ l, x.length ≤ b) → (Lib.joinTail sep l).length ≤ l.length * (b + sep.length) := by
      intro l
      induction l with
      | nil => intro _; simp [Lib.joinTail]
      | cons y l ih =>
        intro h
        have h1 := ih (fun x hx => h x (List.mem_cons_of_mem _ hx))
        have h2 := h y (by simp)
        have : Lib.joinTail sep (y :: l) = sep ++ y ++ Lib.joinTail sep l := by simp [Lib.joinTail]
        rw [this, List.length_append, List.length_append, List.length_cons, Nat.add_mul]
        omega
    have h1 := this l (fun x hx => h x (List.mem_cons_of_mem _ hx))
    have h2 := h x (by simp)
    rw [List.length_append, List.length_cons, Nat.add_mul]
    omega
theorem tagText_le {ts : List TagL} (h : ∀ t ∈ ts, TagS t) (hl : ts.length ≤ 32) : (tagText ts).length ≤ 70000 := by
  unfold tagText
  have := join_le [44] 2001 (ts.map oneT) (fun x hx => by
    obtain ⟨t, ht, rfl⟩ := List.mem_map.1 hx
    exact oneT_le (h t ht))
  rw [List.length_map] at this
  have h2 : ts.length * (2001 + [(44 : UInt8)].length) ≤ 32 * 2002 := Nat.mul_le_mul_right _ hl
  omega
theorem tagText_loop (n : Nat) (hn : 200000 ≤ n) (X : Type) (k0 : List (List UInt8) → Nat → Option X) (kr : List UInt8 → Int → Int → Option X) (ts : List TagL) (hl : ts.length ≤ 1000) (hok : ∀ t ∈ ts, TagS t ∧ tagGood t = true) : ∀ (r : List TagL) (acc : List (List UInt8)) (i m : Nat), ts.drop i = r → acc.length ≤ i → i ≤ ts.length → r.length < m →
    F.tag_Text.L3 n k0 kr m acc ts (ts.length : Int) (i : Int) acc.length = k0 (acc ++ r.map oneT) (acc ++ r.map oneT).length := by
  intro r
  induction r with
  | nil =>
    intro acc i m h1 h2 hi hm
    obtain ⟨m, rfl⟩ : ∃ q, m = q + 1 := ⟨m - 1, by omega⟩
    rw [F.tag_Text.L3]
    unfold F.tag_Text.L3.step
    dsimp only
    rw [bif_neg (by have := drop_nil' h1; omega)]
    simp
  | cons t r ih =>
    intro acc i m h1 h2 hi hm
    obtain ⟨m, rfl⟩ : ∃ q, m = q + 1 := ⟨m - 1, by simp at hm; omega⟩
    obtain ⟨l1, g1, t1⟩ := drop_cons h1
    simp only [List.length_cons] at hm
    obtain ⟨ht, hg⟩ := hok t (List.mem_of_getElem? g1)
    have a1 := ht.1
    have a2 := ht.2
    have hih := ih (acc ++ [oneT t]) (i + 1) m t1 (by simp; omega) (by omega) (by omega)
    have e : acc ++ [oneT t] ++ r.map oneT = acc ++ (t :: r).map oneT := by simp
    rw [e] at hih
    rw [F.tag_Text.L3]
    unfold F.tag_Text.L3.step
    dsimp only
    rw [bif_pos (by omega), idx_nat, g1, some_bind', tag_chk n hn ⟨by omega, by omega⟩, some_bind', hg, cond_true]
    rw [wrap_succ (by omega), Nat.beq_refl, growL (by omega), growL (by omega)]
    simp only [beq_self_eq_true, Bool.not_true, cond_false, cond_true]
    by_cases h0 : t.2 = []
    · rw [h0, beq_self_eq_true, Bool.not_true, cond_false]
      have e1 : oneT t = t.1 := by unfold oneT; rw [if_pos h0]
      rw [e1] at hih
      exact hih
    · rw [beq_eq_false_iff_ne.2 h0, Bool.not_false, cond_true, growS (by omega), growS (by simp only [List.length_append, List.length_cons, List.length_nil]; omega)]
      have e1 : oneT t = t.1 ++ ([58] ++ t.2) := by unfold oneT; rw [if_neg h0]
      rw [e1] at hih
      exact hih
theorem tagText_eq (n : Nat) (hn : 200000 ≤ n) (ts : List TagL) (hl : ts.length ≤ 32) (hok : ∀ t ∈ ts, TagS t ∧ tagGood t = true) : F.tag_Text n ts = some (tagText ts, 0, 0, ()) := by
  unfold F.tag_Text
  refine (tagText_loop n hn _ _ _ ts (by omega) hok ts [] 0 n rfl (by simp) (by omega) (by omega)).trans ?_
  have e1 : O.join n (ts.map oneT) [44] = some (tagText ts) := by
    unfold O.join
    have h2 := tagText_le (fun t ht => (hok t ht).1) hl
    unfold tagText at h2
    have : (Nat.ble (ts.map oneT).length big47 && Nat.ble (Lib.join (ts.map oneT) [44]).length big47) = true := by
      simp only [Bool.and_eq_true, nble, big47, List.length_map]
      omega
    rw [this, cond_true]; rfl
  show (O.join n (ts.map oneT) [44]).bind _ = _
  rw [e1]; rfl
end Go.AM
set_option linter.unusedVariables false
set_option linter.unusedSimpArgs false
namespace Go.AM
theorem rateP_le {k r : Int} (h : rateB k r = true) : (rateP r).length ≤ 20 ∧ (rateText r).2.1 = 0 ∧ 1 ≤ r ∧ r ≤ 1000000 := by
  have hr : 1 ≤ r ∧ r ≤ 1000000 := by
    unfold rateB at h
    simp only [Bool.and_eq_true, decide_eq_true_eq] at h
    exact ⟨h.1, h.2.1⟩
  by_cases e : r = 1000000
  · subst e; exact ⟨by decide, by decide, by omega, by omega⟩
  · have hf := rateText_form (k := r) ⟨hr.1, by omega⟩
    have h6 := (pad6_all (k := r.toNat) (by omega)).2.1
    have ht := trz_le (pad6 r.toNat)
    unfold rateP
    rw [if_neg e, hf]
    refine ⟨?_, rfl, hr⟩
    simp only [List.length_append, List.length_cons, List.length_nil]
    omega
theorem timeP_le {t : Int} (h : timeB t = true) : (timeP t).length ≤ 24 ∧ 0 ≤ t ∧ t ≤ 1099511627776 := by
  have hr : 0 ≤ t ∧ t ≤ 1099511627776 := by
    unfold timeB at h
    simpa only [Bool.and_eq_true, decide_eq_true_eq] using h
  refine ⟨?_, hr⟩
  have := dd_len64 (c := t.toNat) (by rw [two64_eq]; omega)
  unfold timeP
  split
  · simp
  · simp only [List.length_append, List.length_cons, List.length_nil]; omega
structure RightM (m : MetD) : Prop where
  ok : MetOK m
  chk : chkM m = 0
theorem right_vals {m : MetD} (h : RightM m) : (∀ d ∈ m.2.2.1, DecLOK d ∧ decC d = 0) ∧ 1 ≤ m.2.2.1.length ∧ m.2.2.1.length ≤ 64 := by
  have := (chk_zero h.chk).2.2.1
  unfold valsB at this
  simp only [Bool.and_eq_true, decide_eq_true_eq] at this
  refine ⟨fun d hd => ⟨h.ok.2.1.2 d hd, ?_⟩, this.1, this.2.1⟩
  simpa using List.all_eq_true.1 this.2.2 d hd
theorem right_tags {m : MetD} (h : RightM m) : (∀ t ∈ m.2.2.2.2.1, TagS t ∧ tagGood t = true) ∧ m.2.2.2.2.1.length ≤ 32 := by
  have := (chk_zero h.chk).2.2.2.2.1
  unfold tagsB at this
  simp only [Bool.and_eq_true, decide_eq_true_eq] at this
  exact ⟨fun t ht => ⟨tagGood_le (List.all_eq_true.1 this.2 t ht), List.all_eq_true.1 this.2 t ht⟩, this.1⟩
theorem nameOK_le {s : List UInt8} (h : nameOK s = true) : 1 ≤ s.length ∧ s.length ≤ 200 := by
  rw [nameOK_eq] at h
  simp only [Bool.and_eq_true, decide_eq_true_eq] at h
  exact h.2
theorem line_loop (n : Nat) (hn : 200000 ≤ n) (X : Type) (k0 : List UInt8 → Int → List DecL → Int → List TagL → Int → (Nat × List UInt8) → (Nat × Nat) → Int → Option X) (b0 : List UInt8) (b1 : Int) (b2 : List DecL) (b3 : Int) (b4 : List TagL) (b5 : Int) (vs : List DecL) (hl : vs.length ≤ 100) (hok : ∀ d ∈ vs, DecLOK d ∧ decC d = 0) : ∀ (r : List DecL) (acc : List UInt8) (v i m : Nat), vs.drop i = r → acc.length ≤ 1000 + i * 40 → i ≤ vs.length → r.length < m →
    ∃ v', F.dog_Line.L9 n k0 m vs (vs.length : Int) (i : Int) b0 b1 b2 b3 b4 b5 (v, acc) (v, acc.length) 0 = k0 b0 b1 b2 b3 b4 b5 (v', acc ++ valsT r) (v', (acc ++ valsT r).length) 0 := by
  intro r
  induction r with
  | nil =>
    intro acc v i m h1 h2 hi hm
    obtain ⟨m, rfl⟩ : ∃ q, m = q + 1 := ⟨m - 1, by omega⟩
    refine ⟨v, ?_⟩
    rw [F.dog_Line.L9]
    unfold F.dog_Line.L9.step
    dsimp only
    rw [bif_neg (by have := drop_nil' h1; omega)]
    simp [valsT]
  | cons d r ih =>
    intro acc v i m h1 h2 hi hm
    obtain ⟨m, rfl⟩ : ∃ q, m = q + 1 := ⟨m - 1, by simp at hm; omega⟩
    obtain ⟨l1, g1, t1⟩ := drop_cons h1
    simp only [List.length_cons] at hm
    obtain ⟨hd, h0⟩ := hok d (List.mem_of_getElem? g1)
    have hlen : (textL d).length ≤ 39 := textD_le hd h0
    have hT : F.dec_Text n (d.1, d.2.1, d.2.2, ()) = some (textL d, 0, ()) := decText_eq n hn hd h0
    obtain ⟨v', hv⟩ := ih (acc ++ ([58] ++ textL d)) (v + 1) (i + 1) m t1 (by simp only [List.length_append, List.length_cons, List.length_nil]; omega) (by omega) (by omega)
    refine ⟨v', ?_⟩
    rw [F.dog_Line.L9]
    unfold F.dog_Line.L9.step
    dsimp only
    rw [bif_pos (by omega), idx_nat, g1, some_bind', hT, some_bind', wrap_succ (by omega)]
    dsimp only
    rw [beq_self_eq_true, cond_true, growS (by omega), Nat.beq_refl, cond_true, growB (by simp only [List.length_append, List.length_cons, List.length_nil]; omega)]
    rw [hv]
    simp [valsT]
theorem c25_eq (n : Nat) (X : Type) (kr : List UInt8 → Int → Option X) (b0 : List UInt8) (b1 : Int) (b2 : List DecL) (b3 : Int) (b4 : List TagL) (b5 : Int) (B : List UInt8) (v l : Nat) (hB : B ≠ []) : F.dog_Line.C25 n kr b0 b1 b2 b3 b4 b5 (v, B) (v, l) 0 = kr B 0 := by
  unfold F.dog_Line.C25
  dsimp only
  rw [beq_self_eq_true, Bool.not_true, cond_false, Nat.beq_refl, cond_true]
  cases B with
  | nil => exact absurd rfl hB
  | cons x B => rfl
theorem c22_eq (n : Nat) (X : Type) (kr : List UInt8 → Int → Option X) (b0 : List UInt8) (b1 : Int) (b2 : List DecL) (b3 : Int) (b4 : List TagL) (b5 : Int) (h5 : timeB b5 = true) (B : List UInt8) (v : Nat) (hB : B ≠ []) (hl : B.length ≤ 200000) : F.dog_Line.C22 n kr b0 b1 b2 b3 b4 b5 (v, B) (v, B.length) 0 = kr (B ++ timeP b5) 0 := by
  obtain ⟨t1, t2, t3⟩ := timeP_le h5
  unfold F.dog_Line.C22 timeP
  by_cases e : b5 = 0
  · rw [e, beq_self_eq_true, Bool.not_true, cond_false, if_pos rfl, List.append_nil]
    exact c25_eq n X _ b0 b1 b2 b3 b4 0 B v _ hB
  · have hd : F.num_Text n b5 = some (Lib.decDigits b5.toNat, 0, ()) := by
      rw [text_num n b5 (by omega)]; unfold numText; rw [if_neg (by omega)]
    have hdl := dd_len64 (c := b5.toNat) (by rw [two64_eq]; omega)
    rw [beq_eq_false_iff_ne.2 e, Bool.not_false, cond_true, hd, some_bind', if_neg e]
    dsimp only
    rw [beq_self_eq_true, cond_true, growS (by omega), Nat.beq_refl, cond_true, growB (by simp only [List.length_append, List.length_cons, List.length_nil]; omega)]
    exact c25_eq n X _ b0 b1 b2 b3 b4 b5 _ _ _ (by simp)
theorem c19_eq (n : Nat) (hn : 200000 ≤ n) (X : Type) (kr : List UInt8 → Int → Option X) (b0 : List UInt8) (b1 : Int) (b2 : List DecL) (b3 : Int) (b4 : List TagL) (b5 : Int) (h5 : timeB b5 = true) (hts : b4.length ≤ 32) (ht : ∀ t ∈ b4, TagS t ∧ tagGood t = true) (B : List UInt8) (v : Nat) (hB : B ≠ []) (hl : B.length ≤ 100000) : F.dog_Line.C19 n kr b0 b1 b2 b3 b4 b5 (v, B) (v, B.length) 0 = kr (B ++ tagsP b4 ++ timeP b5) 0 := by
  have htl := tagText_le (fun t ht' => (ht t ht').1) hts
  unfold F.dog_Line.C19 tagsP
  by_cases e : b4 = []
  · rw [e, bif_neg (by simp), if_pos rfl, List.append_nil]
    exact c22_eq n X _ b0 b1 b2 b3 [] b5 h5 B v hB (by omega)
  · have hlen : 0 < b4.length := List.length_pos_iff.2 e
    rw [bif_pos (by omega), tagText_eq n hn b4 hts ht, some_bind', if_neg e]
    dsimp only
    rw [beq_self_eq_true, cond_true, growS (by omega), Nat.beq_refl, cond_true, growB (by simp only [List.length_append, List.length_cons, List.length_nil]; omega)]
    exact c22_eq n X _ b0 b1 b2 b3 b4 b5 h5 _ _ (by simp) (by simp only [List.length_append, List.length_cons, List.length_nil]; omega)
theorem dl16_eq (n : Nat) (hn : 200000 ≤ n) (X : Type) (kr : List UInt8 → Int → Option X) (b0 : List UInt8) (b1 : Int) (b2 : List DecL) (b3 : Int) (b4 : List TagL) (b5 : Int) (k : Int) (h3 : rateB k b3 = true) (h5 : timeB b5 = true) (hts : b4.length ≤ 32) (ht : ∀ t ∈ b4, TagS t ∧ tagGood t = true) (B : List UInt8) (v : Nat) (hB : B ≠ []) (hl : B.length ≤ 50000) : F.dog_Line.C16 n kr b0 b1 b2 b3 b4 b5 (v, B) (v, B.length) 0 = kr (B ++ rateP b3 ++ tagsP b4 ++ timeP b5) 0 := by
  obtain ⟨r1, r2, r3, r4⟩ := rateP_le h3
  unfold F.dog_Line.C16
  by_cases e : b3 = 1000000
  · have : rateP b3 = [] := by unfold rateP; rw [if_pos e]
    rw [this, List.append_nil, e, beq_self_eq_true, Bool.not_true, cond_false]
    exact c19_eq n hn X _ b0 b1 b2 1000000 b4 b5 h5 hts ht B v hB (by omega)
  · have hP : rateP b3 = [124, 64] ++ (rateText b3).1 := by unfold rateP; rw [if_neg e]
    have hrl : (rateText b3).1.length ≤ 20 := by rw [hP] at r1; simp only [List.length_append, List.length_cons, List.length_nil] at r1; omega
    rw [hP, beq_eq_false_iff_ne.2 e, Bool.not_false, cond_true, rateText_num, some_bind', beq_self_eq_true, cond_true, growS (by omega)]
    dsimp only
    rw [Nat.beq_refl, cond_true, growB (by simp only [List.length_append, List.length_cons, List.length_nil]; omega), r2]
    exact c19_eq n hn X _ b0 b1 b2 b3 b4 b5 h5 hts ht _ _ (by simp) (by simp only [List.length_append, List.length_cons, List.length_nil]; omega)
def lineM (m : MetD) : List UInt8 × Int × Unit := if (normM m).2.1 = 0 then (lineD (normM m).1, 0, ()) else ([], (normM m).2.1, ())
theorem normM_cases {m : MetD} (hm : MetOK m) : (normM m = (formM m, 0, ()) ∧ RightM (formM m)) ∨ (∃ e, e ≠ 0 ∧ normM m = (zeroM, e, ())) := by
  unfold normM
  by_cases h : chkM (valsM m) = 0
  · refine Or.inl ⟨if_pos h, ?_, ?_⟩
    · have hv := valsM_ok hm
      refine ⟨hm.1, hv.2.1, ?_, ?_⟩
      · have h1 := normT_len m.2.2.2.2.1
        have h2 := hm.2.2.1
        show (normT m.2.2.2.2.1).length ≤ 10000
        omega
      · intro t ht
        exact hm.2.2.2 t ((normT_mem _ _).1 ht)
    · obtain ⟨c1, c2, c3, c4, c5, c6⟩ := chk_zero h
      have c5' : tagsB (formM m).2.2.2.2.1 = true := by
        unfold tagsB at c5 ⊢
        simp only [Bool.and_eq_true, decide_eq_true_eq] at c5 ⊢
        have h1 := normT_len m.2.2.2.2.1
        have h2 : m.2.2.2.2.1.length ≤ 32 := c5.1
        refine ⟨?_, List.all_eq_true.2 (fun t ht => List.all_eq_true.1 c5.2 t ((normT_mem _ _).1 ht))⟩
        show (normT m.2.2.2.2.1).length ≤ 32
        omega
      unfold chkM
      have d1 : nameOK (formM m).1 = true := c1
      have d2 : kindB (formM m).2.1 = true := c2
      have d3 : valsB (formM m).2.2.1 = true := c3
      have d4 : rateB (formM m).2.1 (formM m).2.2.2.1 = true := c4
      have d6 : timeB (formM m).2.2.2.2.2.1 = true := c6
      rw [d1, d2, d3, d4, c5', d6]
      rfl
  · exact Or.inr ⟨_, h, if_neg h⟩
theorem line_eq (n : Nat) (hn : 200000 ≤ n) (m : MetD) (hm : MetOK m) : F.dog_Line n m = some (lineM m) := by
  unfold F.dog_Line lineM
  have hN : F.metric_Normal n (m.1, m.2.1, m.2.2.1, m.2.2.2.1, m.2.2.2.2.1, m.2.2.2.2.2.1, ()) = some (normM m) := metNormal_eq n hn m hm
  rw [hN, some_bind']
  rcases normM_cases hm with ⟨h1, hR⟩ | ⟨e, he, h1⟩
  · rw [h1]
    generalize formM m = f at hR
    obtain ⟨hv, hv1, hv2⟩ := right_vals hR
    obtain ⟨ht, ht2⟩ := right_tags hR
    obtain ⟨c1, c2, c3, c4, c5, c6⟩ := chk_zero hR.chk
    have hnm := nameOK_le c1
    have hvl := valsT_le hv
    obtain ⟨nm, k, vs, r, ts, t, _⟩ := f
    dsimp only at hv hv1 hv2 ht ht2 c1 c2 c3 c4 c5 c6 hnm hvl ⊢
    rw [beq_self_eq_true, Bool.not_true, cond_false, if_pos rfl, growS (by omega), growB (by simp only [List.length_append, List.length_nil]; omega)]
    obtain ⟨v', hloop⟩ := line_loop n hn _ (fun e4_b0_0 e4_b0_1 e4_b0_2 e4_b0_3 e4_b0_4 e4_b0_5 e4_b1_0 e4_b2_1 e4_b3_0 =>
            (F.dog_Word n e4_b0_1).bind fun y5 =>
              bif e4_b3_0 == (0 : Int) then
                bif decide (1 + y5.1.length ≤ strMax) then
                  bif Nat.beq e4_b2_1.1 e4_b1_0.1 then
                    bif decide ((e4_b1_0.2.length + ((([124]) ++ y5.1).length)) * 1 ≤ 2 ^ 46) && decide (0 < 1 ∧ 1 ≤ 2 ^ 20) then
                      F.dog_Line.C16 n
                        (fun e30_2 e30_3 =>
                          some ((e30_2, e30_3, ()))) e4_b0_0 e4_b0_1 e4_b0_2 e4_b0_3 e4_b0_4 e4_b0_5 (e4_b2_1.1 + 1, e4_b1_0.2 ++ (([124]) ++ y5.1)) (e4_b2_1.1 + 1, (e4_b1_0.2 ++ (([124]) ++ y5.1)).length) y5.2.1
                    else
                      none
                  else
                    none
                else
                  none
              else
              bif decide (1 + y5.1.length ≤ strMax) then
                bif Nat.beq e4_b2_1.1 e4_b1_0.1 then
                  bif decide ((e4_b1_0.2.length + ((([124]) ++ y5.1).length)) * 1 ≤ 2 ^ 46) && decide (0 < 1 ∧ 1 ≤ 2 ^ 20) then
                    F.dog_Line.C16 n
                      (fun e31_2 e31_3 =>
                        some ((e31_2, e31_3, ()))) e4_b0_0 e4_b0_1 e4_b0_2 e4_b0_3 e4_b0_4 e4_b0_5 (e4_b2_1.1 + 1, e4_b1_0.2 ++ (([124]) ++ y5.1)) (e4_b2_1.1 + 1, (e4_b1_0.2 ++ (([124]) ++ y5.1)).length) e4_b3_0
                  else
                    none
                else
                  none
              else
                none) nm k vs r ts t vs (by omega) hv vs nm 2 0 n rfl (by omega) (by omega) (by omega)
    refine hloop.trans ?_
    dsimp only
    have hws := word_short k
    rw [word_eq, c2, if_pos rfl, some_bind']
    dsimp only
    rw [beq_self_eq_true, cond_true, growS (by omega), Nat.beq_refl, cond_true, growB (by simp only [List.length_append, List.length_cons, List.length_nil]; omega)]
    exact dl16_eq n hn _ _ nm k vs r ts t k c4 c6 ht2 ht _ _ (by simp) (by simp only [List.length_append, List.length_cons, List.length_nil]; omega)
  · rw [h1]
    dsimp only
    rw [if_neg he, beq_eq_false_iff_ne.2 he, Bool.not_false, cond_true]
end Go.AM
set_option linter.unusedVariables false
set_option linter.unusedSimpArgs false
namespace Go.AM
end Go.AM
set_option linter.unusedVariables false
set_option linter.unusedSimpArgs false
namespace Go.AM
end Go.AM
set_option linter.unusedVariables false
set_option linter.unusedSimpArgs false
namespace Go.AM
end Go.AM
