/- Part 5 of a proof by the abstract machine. -/
import Derived.Test.YtonhplejlfnkoaaGreatDoorQ4
import Derived.KernelRfl
import Derived.Test.YtonhplejlfnkoaaGreatDoorRows
import Derived.Test.YtonhplejlfnkoaaGreatDoorProg
import Derived.Shelf.Spec.BitsCarry
import Derived.Lib.ItoaNum
import Derived.Lib.ItoaLen
import Derived.Lib.AtoiAll
import Derived.Lib.TrimByte
set_option linter.unusedVariables false
set_option maxRecDepth 100000
namespace Go.AM
open Go.Proofs Go.RowKit
open Go.Proofs.YtonhplejlfnkoaaGreatDoor
def SI : World→Prop:=LaidI Tryz.prog Rows.textDecodesRow.laid
def SW : World→Prop:=WOf SI
theorem swTab {w : World} (h : SW w) : Lib.TabIs Tryz.prog w (Rows.textDecodesRow.laid.getD 2 ("", .nil)).1 .u64 Lib.pow10Tab := by
  obtain ⟨w0,h1,h2,h3⟩:=h
  exact zyt (ztm h1 (by kernel_rfl) 2 (by kernel_rfl) (g:=1) (by kernel_rfl) (by kernel_rfl) Tryz.underlying266 Tryz.underlying77 (by kernel_rfl) (by kernel_rfl)) h2 h3
theorem swErrS {w : World} (h : SW w) : ∃ ev,w.cell? ⟨6,0,none⟩ = some ev ∧ (ev = .nilIface ∨ ∃ te pe,ev = .iface te pe):=by
  obtain ⟨w0,h1,h2,h3⟩:=h
  obtain ⟨ev,a,b⟩:=zht h1 (by kernel_rfl) 5 rfl (g:=6) (by kernel_rfl) (by kernel_rfl) Tryz.underlying150
  exact ⟨ev,zof a h3,b⟩
theorem swErrR {w : World} (h : SW w) : ∃ ev,w.cell? ⟨7,0,none⟩ = some ev ∧ (ev = .nilIface ∨ ∃ te pe,ev = .iface te pe):=by
  obtain ⟨w0,h1,h2,h3⟩:=h
  obtain ⟨ev,a,b⟩:=zht h1 (by kernel_rfl) 4 rfl (g:=7) (by kernel_rfl) (by kernel_rfl) Tryz.underlying150
  exact ⟨ev,zof a h3,b⟩
theorem mixed : Tryz.prog.follows .mixedOrders = true:=by kernel_rfl
abbrev V0 : SV:=.int .i64
abbrev V1 : SV:=.int .u8
abbrev V2 : SV:=.agg [V0,V0]
abbrev Y0 : Ty:=.int .u64
abbrev Y1 : Ty:=.int .i64
abbrev Y2 : Ty:=.agg [.bool,Y0,Y1]
abbrev V3 : SV:=.sl Y2 .unk
abbrev Y3 : Ty:=.agg [.str,.str]
abbrev V4 : SV:=.sl Y3 .unk
abbrev V5 : SV:=.agg [.str,V0,V3,V0,V4,V0]
abbrev V6 : SV:=.int .u64
abbrev V7 : SV:=.agg [.bool,V6,V0]
abbrev V8 : SV:=.agg [V1,V1]
abbrev V9 : SV:=.sl .str .unk
abbrev V10 : SV:=.agg [.str,.str,.str,.str,.str,.str]
abbrev V11 : SV:=.agg [.str,.str]
abbrev V12 : SV:=.agg [.str,(.const (.fn 184 [(.ref 2 0)] [])),.str,(.const (.fn 185 [(.ref 2 0)] [])),.str,(.const (.fn 186 [(.ref 2 0)] []))]
abbrev Y4 : Ty:=.sl Y2
abbrev Y5 : Ty:=.sl Y3
abbrev Y6 : Ty:=.agg [.str,Y1,Y4,Y1,Y5,Y1]
abbrev V13 : SV:=.sl .u8 .unk
abbrev V14 : SV:=.sl Y6 .unk
abbrev Y7 : Ty:=.agg [Y1,.str]
abbrev V16 : SV:=.agg [(.fn 97 [V5] []),V0,(.fn 98 [V5] []),V0,(.fn 99 [V5] []),V0,(.fn 100 [V5] []),V0,(.fn 101 [V5] []),V0,(.fn 102 [V5] []),V0]
abbrev Y8 : Ty:=.sl Y6
abbrev Y9 : Ty:=.agg [Y1,Y1]
abbrev Y10 : Ty:=.agg [(.sl .u8),(.sl .u8)]
abbrev Y11 : Ty:=.agg [Y6]
abbrev Y12 : Ty:=.sl Y7
abbrev Y13 : Ty:=.agg [Y6,Y1,Y1]
abbrev Y14 : Ty:=.agg [Y1,.str,.bool]
abbrev Y15 : Ty:=.agg [.u8,.u8]
abbrev Y16 : Ty:=.agg [.str,.str,.str,.str,.str,.str]
def tab : Tree TI:=.node 111 (.node 55 (.node 33 (.node 23 (.node 5 (.node 4 (.one 3 ⟨.int .i64,1,8,false,[(.int .i64 (0 : Int))],some Y1,false⟩) (.one 4 ⟨.bool,1,1,false,[(.bool false)],some .bool,false⟩)) (.node 9 (.one 5 ⟨.int .u8,1,1,false,[(.int .u8 (0 : Int))],some .u8,false⟩) (.node 22 (.one 9 ⟨.str,1,16,false,[(.str [])],some .str,false⟩) (.one 22 ⟨.slice 5,1,24,false,[.sl .u8 [] .full],some (.sl .u8),false⟩)))) (.node 25 (.node 24 (.one 23 ⟨.func,1,8,false,[.nilfn],none,false⟩) (.one 24 ⟨.slice 36,1,24,false,[.sl Y6 [] .full],some Y8,false⟩)) (.node 27 (.one 25 ⟨.int .i64,1,8,false,[(.int .i64 (0 : Int))],some Y1,false⟩) (.node 28 (.one 27 ⟨.struct [(0,25),(1,3)],2,16,true,[(.int .i64 (0 : Int)),(.int .i64 (0 : Int))],some Y9,true⟩) (.one 28 ⟨.other,1,0,false,[.any],none,false⟩))))) (.node 42 (.node 36 (.node 34 (.one 33 ⟨.slice 79,1,24,false,[.sl Y2 [] .full],some Y4,false⟩) (.one 34 ⟨.slice 76,1,24,false,[.sl Y3 [] .full],some Y5,false⟩)) (.node 38 (.one 36 ⟨.struct [(0,9),(1,3),(2,33),(3,3),(4,34),(5,3)],6,88,true,[(.str []),(.int .i64 (0 : Int)),.sl Y2 [] .full,(.int .i64 (0 : Int)),.sl Y3 [] .full,(.int .i64 (0 : Int))],some Y6,false⟩) (.node 40 (.one 38 ⟨.other,1,0,false,[.any],none,false⟩) (.one 40 ⟨.other,1,0,false,[.any],none,false⟩)))) (.node 49 (.node 44 (.one 42 ⟨.func,1,8,false,[.nilfn],none,false⟩) (.node 45 (.one 44 ⟨.other,1,0,false,[.any],none,false⟩) (.one 45 ⟨.func,1,8,false,[.nilfn],none,false⟩))) (.node 52 (.one 49 ⟨.arr 2 22,2,48,true,[.sl .u8 [] .full,.sl .u8 [] .full],some Y10,false⟩) (.node 53 (.one 52 ⟨.slice 9,1,24,false,[.sl .str [] .full],some (.sl .str),false⟩) (.one 53 ⟨.other,1,0,false,[.any],none,false⟩)))))) (.node 77 (.node 67 (.node 61 (.node 59 (.one 55 ⟨.other,1,0,false,[.any],none,false⟩) (.one 59 ⟨.other,1,0,false,[.any],none,false⟩)) (.node 64 (.one 61 ⟨.other,1,0,false,[.any],none,false⟩) (.node 65 (.one 64 ⟨.func,1,8,false,[.nilfn],none,false⟩) (.one 65 ⟨.func,1,8,false,[.nilfn],none,false⟩)))) (.node 71 (.node 68 (.one 67 ⟨.struct [(0,64),(1,65)],2,16,true,[.nilfn,.nilfn],none,false⟩) (.one 68 ⟨.other,1,0,false,[.any],none,false⟩)) (.node 73 (.one 71 ⟨.func,1,8,false,[.nilfn],none,false⟩) (.node 76 (.one 73 ⟨.other,1,0,false,[.any],none,false⟩) (.one 76 ⟨.struct [(0,9),(1,9)],2,32,true,[(.str []),(.str [])],some Y3,true⟩))))) (.node 92 (.node 80 (.node 79 (.one 77 ⟨.int .u64,1,8,false,[(.int .u64 (0 : Int))],some Y0,false⟩) (.one 79 ⟨.struct [(0,4),(1,77),(2,3)],3,24,true,[(.bool false),(.int .u64 (0 : Int)),(.int .i64 (0 : Int))],some Y2,true⟩)) (.node 90 (.one 80 ⟨.other,1,0,false,[.any],none,false⟩) (.node 91 (.one 90 ⟨.func,1,8,false,[.nilfn],none,false⟩) (.one 91 ⟨.other,1,0,false,[.any],none,false⟩)))) (.node 102 (.node 96 (.one 92 ⟨.map 3 90,1,8,false,[.any],none,false⟩) (.node 97 (.one 96 ⟨.struct [(0,36)],6,88,true,[(.str []),(.int .i64 (0 : Int)),.sl Y2 [] .full,(.int .i64 (0 : Int)),.sl Y3 [] .full,(.int .i64 (0 : Int))],some Y11,false⟩) (.one 97 ⟨.func,1,8,false,[.nilfn],none,false⟩))) (.node 105 (.one 102 ⟨.other,1,0,false,[.any],none,false⟩) (.node 107 (.one 105 ⟨.other,1,0,false,[.any],none,false⟩) (.one 107 ⟨.slice 111,1,24,false,[.sl Y7 [] .full],some Y12,false⟩))))))) (.node 161 (.node 139 (.node 131 (.node 114 (.node 112 (.one 111 ⟨.struct [(0,3),(1,9)],2,24,true,[(.int .i64 (0 : Int)),(.str [])],some Y7,true⟩) (.one 112 ⟨.ptr,1,8,false,[.nilp],none,false⟩)) (.node 127 (.one 114 ⟨.other,1,0,false,[.any],none,false⟩) (.node 130 (.one 127 ⟨.func,1,8,false,[.nilfn],none,false⟩) (.one 130 ⟨.struct [(0,36)],6,88,true,[(.str []),(.int .i64 (0 : Int)),.sl Y2 [] .full,(.int .i64 (0 : Int)),.sl Y3 [] .full,(.int .i64 (0 : Int))],some Y11,false⟩)))) (.node 133 (.node 132 (.one 131 ⟨.struct [(0,23),(1,25)],2,16,true,[.nilfn,(.int .i64 (0 : Int))],none,false⟩) (.one 132 ⟨.arr 6 131,12,96,true,[.nilfn,(.int .i64 (0 : Int)),.nilfn,(.int .i64 (0 : Int)),.nilfn,(.int .i64 (0 : Int)),.nilfn,(.int .i64 (0 : Int)),.nilfn,(.int .i64 (0 : Int)),.nilfn,(.int .i64 (0 : Int))],none,false⟩)) (.node 134 (.one 133 ⟨.slice 4,1,24,false,[.sl .bool [] .full],some (.sl .bool),false⟩) (.node 136 (.one 134 ⟨.other,1,0,false,[.any],none,false⟩) (.one 136 ⟨.func,1,8,false,[.nilfn],none,false⟩))))) (.node 150 (.node 142 (.node 141 (.one 139 ⟨.other,1,0,false,[.any],none,false⟩) (.one 141 ⟨.func,1,8,false,[.nilfn],none,false⟩)) (.node 146 (.one 142 ⟨.other,1,0,false,[.any],none,false⟩) (.node 148 (.one 146 ⟨.ptr,1,8,false,[.nilp],none,false⟩) (.one 148 ⟨.struct [(0,146),(1,22)],2,32,true,[.nilp,.sl .u8 [] .full],none,false⟩)))) (.node 154 (.node 151 (.one 150 ⟨.iface,1,16,false,[(.err false)],none,false⟩) (.node 153 (.one 151 ⟨.other,1,0,false,[.any],none,false⟩) (.one 153 ⟨.func,1,8,false,[.nilfn],none,false⟩))) (.node 157 (.one 154 ⟨.other,1,0,false,[.any],none,false⟩) (.node 159 (.one 157 ⟨.ptr,1,8,false,[.nilp],none,false⟩) (.one 159 ⟨.struct [(0,36),(6,3),(7,3)],8,104,true,[(.str []),(.int .i64 (0 : Int)),.sl Y2 [] .full,(.int .i64 (0 : Int)),.sl Y3 [] .full,(.int .i64 (0 : Int)),(.int .i64 (0 : Int)),(.int .i64 (0 : Int))],some Y13,false⟩)))))) (.node 190 (.node 174 (.node 164 (.node 162 (.one 161 ⟨.func,1,8,false,[.nilfn],none,false⟩) (.one 162 ⟨.slice 161,1,24,false,[.nils],none,false⟩)) (.node 167 (.one 164 ⟨.func,1,8,false,[.nilfn],none,false⟩) (.node 169 (.one 167 ⟨.struct [(0,3),(1,9),(2,4)],3,32,true,[(.int .i64 (0 : Int)),(.str []),(.bool false)],some Y14,true⟩) (.one 169 ⟨.other,1,0,false,[.any],none,false⟩)))) (.node 183 (.node 177 (.one 174 ⟨.func,1,8,false,[.nilfn],none,false⟩) (.node 179 (.one 177 ⟨.other,1,0,false,[.any],none,false⟩) (.one 179 ⟨.other,1,0,false,[.any],none,false⟩))) (.node 185 (.one 183 ⟨.func,1,8,false,[.nilfn],none,false⟩) (.node 187 (.one 185 ⟨.func,1,8,false,[.nilfn],none,false⟩) (.one 187 ⟨.func,1,8,false,[.nilfn],none,false⟩))))) (.node 208 (.node 200 (.node 198 (.one 190 ⟨.func,1,8,false,[.nilfn],none,false⟩) (.one 198 ⟨.arr 2 5,2,2,true,[(.int .u8 (0 : Int)),(.int .u8 (0 : Int))],some Y15,false⟩)) (.node 201 (.one 200 ⟨.func,1,8,false,[.nilfn],none,false⟩) (.node 207 (.one 201 ⟨.arr 6 9,6,96,true,[(.str []),(.str []),(.str []),(.str []),(.str []),(.str [])],some Y16,false⟩) (.one 207 ⟨.func,1,8,false,[.nilfn],none,false⟩)))) (.node 211 (.node 209 (.one 208 ⟨.struct [(0,9),(1,207)],2,24,true,[(.str []),.nilfn],none,false⟩) (.node 210 (.one 209 ⟨.arr 3 208,6,72,true,[(.str []),.nilfn,(.str []),.nilfn,(.str []),.nilfn],none,false⟩) (.one 210 ⟨.func,1,8,false,[.nilfn],none,false⟩))) (.node 221 (.one 211 ⟨.other,1,0,false,[.any],none,false⟩) (.node 222 (.one 221 ⟨.func,1,8,false,[.nilfn],none,false⟩) (.one 222 ⟨.other,1,0,false,[.any],none,false⟩)))))))
theorem zyu : tab.all (tiOK Tryz.prog) = true:=by kernel_rfl
abbrev FO (g : Nat) (ps : List SV) (rv : RV) (f : arrL ps (Option rv.den)) : Prop:=FnOK Tryz.prog SW g ps rv (appL ps f)
theorem mx {X : Type} {fns : List (Nat × Func)} {C : List (Nat × (List AV→Option Entry))} {loops : List (Nat × Nat × List (LoopI X))} {rfs : List (Nat × Nat × Func × List Nat × Nat)}
    {conf : List (Nat × Nat × List (Nat × Nat))} {unroll : List (Nat × Nat × Nat)} {cuts : List (Nat × Nat × List (CutI X))} {rows : List (Nat × Ty)} {pr : List (Nat × Pr)} {bt : Option (Nat × Nat)} {keep : List Nat} (hf : AllT (fun p => Tryz.prog.funcs[p.1]? = some p.2 ∧ p.2.name ≠ "runtime.NumGoroutine") fns)
    (hC : AllT (fun p => OrcOK Tryz.prog SW p.1 p.2) C) (hc : AllT (fun p => okC (mkCx tab.get fns C loops rfs conf unroll cuts rows pr bt keep) p.1 p.2.ntmps (p.2.body.getD .skip)) fns) (hr : AllT (fun q => Tryz.prog.funcs[q.1]? = some q.2.2.1 ∧ lkp fns q.1 = some q.2.2.1) rfs)
    (hp : AllT (fun p => PrOK Tryz.prog SW p.1 p.2) pr:=by exact trivial) : CxOK Tryz.prog SW (mkCx tab.get fns C loops rfs conf unroll cuts rows pr bt keep):=zwq mixed (tabOK zyu) hf hC hc hr hp
abbrev P208 : List SV:=[.str,.str]
abbrev R208 : RV:=.one V0
theorem ok208 (n : Nat) : FO 208 P208 R208 (O.index1 n):=zrc (enters Tryz.func208 (by kernel_rfl) (by decide)) Tryz.stringslite_Index_one n
noncomputable def o208 (n : Nat):=oc 208 P208 R208 (O.index1 n)
noncomputable def cx170 (X : Type) (n : Nat) : Cx X:=mkCx tab.get [(170,Tryz.f170)] [o208 n] [] [] [] []
theorem ztn (X : Type) (n : Nat) : CxOK Tryz.prog SW (cx170 X n):=mx (T1 (J Tryz.func170 (by decide))) (T1 (zb (ok208 n))) (T1 (okc trivial trivial)) trivial
abbrev P170 : List SV:=[.str,.str]
abbrev R170 : RV:=.many [.str,.str,.bool]
theorem ok170 (n : Nat) : FO 170 P170 R170 (F.za5 n):=zf WOf.st (ztn _ n) (d:=8) fun _ => by kernel_rfl
noncomputable def o170 (n : Nat):=oc 170 P170 R170 (F.za5 n)
noncomputable def cx113 (X : Type) (n : Nat) : Cx X:=mkCx tab.get [(113,Tryz.f113)] [o170 n] [] [] [] []
theorem zto (X : Type) (n : Nat) : CxOK Tryz.prog SW (cx113 X n):=mx (T1 (J Tryz.func113 (by decide))) (T1 (zb (ok170 n))) (T1 (okc trivial trivial)) trivial
abbrev P113 : List SV:=[.str,.str]
abbrev R113 : RV:=.many [.str,.str,.bool]
theorem ok113 (n : Nat) : FO 113 P113 R113 (F.zaa n):=zf WOf.st (zto _ n) (d:=8) fun _ => by kernel_rfl
noncomputable def o113 (n : Nat):=oc 113 P113 R113 (F.zaa n)
noncomputable def cx209 (X : Type) (n : Nat) : Cx X:=mkCx tab.get [(209,Tryz.f209)] [] [] [] [] []
theorem ztp (X : Type) (n : Nat) : CxOK Tryz.prog SW (cx209 X n):=mx (T1 (J Tryz.func209 (by decide))) trivial (T1 (okc trivial trivial)) trivial
abbrev P209 : List SV:=[V0]
abbrev R209 : RV:=.one .bool
theorem ok209 (n : Nat) : FO 209 P209 R209 (F.zbm n):=zf WOf.st (ztp _ n) (d:=8) fun _ => by kernel_rfl
noncomputable def o209 (n : Nat):=oc 209 P209 R209 (F.zbm n)
noncomputable def cx246 (X : Type) (n : Nat) : Cx X:=mkCx tab.get [(246,Tryz.f246)] [] [] [] [] []
theorem ztq (X : Type) (n : Nat) : CxOK Tryz.prog SW (cx246 X n):=mx (T1 (J Tryz.func246 (by decide))) trivial (T1 (okc trivial trivial)) trivial
abbrev P246 : List SV:=[V1,V1,V1]
abbrev R246 : RV:=.one .bool
theorem ok246 (n : Nat) : FO 246 P246 R246 (F.zad n):=zf WOf.st (ztq _ n) (d:=8) fun _ => by kernel_rfl
noncomputable def o246 (n : Nat):=oc 246 P246 R246 (F.zad n)
noncomputable def cx210 (X : Type) (n : Nat) : Cx X:=mkCx tab.get [(210,Tryz.f210)] [o246 n] [] [] [] []
theorem ztr (X : Type) (n : Nat) : CxOK Tryz.prog SW (cx210 X n):=mx (T1 (J Tryz.func210 (by decide))) (T1 (zb (ok246 n))) (T1 (okc trivial trivial)) trivial
abbrev P210 : List SV:=[V0,V1]
abbrev R210 : RV:=.one .bool
theorem ok210 (n : Nat) : FO 210 P210 R210 (F.zbp n):=zf WOf.st (ztr _ n) (d:=8) fun _ => by kernel_rfl
noncomputable def o210 (n : Nat):=oc 210 P210 R210 (F.zbp n)
def qh1 : Shape:=⟨[(0,V0),(1,.str),(11,V0),(12,V0)],[],[],[],[],0,0,0⟩
def qe1_0 : Shape:=⟨[],[],[],[],[],0,0,0⟩
def qe1_r : Shape:=⟨[(4,V0),(5,V0)],[],[],[],[],0,0,0⟩
noncomputable def ql1 (X : Type) (n : Nat) : LoopI X:=mkLi 8 0 0 0 qh1 [(0,qe1_0)] [qe1_r] n fun m ks => F.zae.L4 n (fun _ => xe qe1_0 ks 0) (xr qe1_r ks) m
noncomputable def cx171 (X : Type) (n : Nat) : Cx X:=mkCx tab.get [(171,Tryz.f171)] [o209 n,o210 n] [(171,4,[ql1 X n])] [] [] []
theorem qo1 (X : Type) (n : Nat) : LO (cx171 X n) 171 Tryz.f171 0 (ql1 X n):=lok
theorem zts (X : Type) (n : Nat) : CxOK Tryz.prog SW (cx171 X n):=mx (T1 (J Tryz.func171 (by decide))) (J (zb (ok209 n)) (T1 (zb (ok210 n)))) (T1 (okc (T1 (T1 (qo1 X n))) trivial)) trivial
abbrev P171 : List SV:=[V0,.str]
abbrev R171 : RV:=.many [V0,V0]
theorem ok171 (n : Nat) : FO 171 P171 R171 (F.zae n):=zf WOf.st (zts _ n) (d:=8) fun _ => by kernel_rfl
noncomputable def o171 (n : Nat):=oc 171 P171 R171 (F.zae n)
noncomputable def cx114 (X : Type) (n : Nat) : Cx X:=mkCx tab.get [(114,Tryz.f114)] [o171 n] [] [] [] []
theorem ztt (X : Type) (n : Nat) : CxOK Tryz.prog SW (cx114 X n):=mx (T1 (J Tryz.func114 (by decide))) (T1 (zb (ok171 n))) (T1 (okc trivial trivial)) trivial
abbrev P114 : List SV:=[V0,.str,V0,V0]
abbrev R114 : RV:=.one V2
theorem ok114 (n : Nat) : FO 114 P114 R114 (F.zan n):=zf WOf.st (ztt _ n) (d:=8) fun _ => by kernel_rfl
noncomputable def o114 (n : Nat):=oc 114 P114 R114 (F.zan n)
noncomputable def cx115 (X : Type) (n : Nat) : Cx X:=mkCx tab.get [(115,Tryz.f115)] [] [] [] [] []
theorem ztu (X : Type) (n : Nat) : CxOK Tryz.prog SW (cx115 X n):=mx (T1 (J Tryz.func115 (by decide))) trivial (T1 (okc trivial trivial)) trivial
abbrev P115 : List SV:=[V0,V0]
abbrev R115 : RV:=.many [V5,V2]
theorem ok115 (n : Nat) : FO 115 P115 R115 (F.zaj n):=zf WOf.st (ztu _ n) (d:=8) fun _ => by kernel_rfl
noncomputable def o115 (n : Nat):=oc 115 P115 R115 (F.zaj n)
abbrev P190 : List SV:=[V6,V6]
abbrev R190 : RV:=.many [V6,V6]
theorem ok190 (n : Nat) : FO 190 P190 R190 (O.mul64 n):=ztk (enters Tryz.func190 (by kernel_rfl) (by decide)) Tryz.bits_Mul64 n
noncomputable def o190 (n : Nat):=oc 190 P190 R190 (O.mul64 n)
abbrev P191 : List SV:=[V6,V6,V6]
abbrev R191 : RV:=.many [V6,V6]
theorem ok191 (n : Nat) : FO 191 P191 R191 (O.add64 n):=ztl (fun x y c hx hy hc w => by rw [run_callFunc_extern Tryz.func191 (by kernel_rfl) (by kernel_rfl) (by kernel_rfl) (e:=Go.add64Entry) (by kernel_rfl),Go.run_add64 x y c (by omega) (by omega) (by omega) (by omega)]; simp only [Result.andThen]; congr 5 <;> omega) n
noncomputable def o191 (n : Nat):=oc 191 P191 R191 (O.add64 n)
noncomputable def cx134 (X : Type) (n : Nat) : Cx X:=mkCx tab.get [(134,Tryz.f134)] [o190 n,o191 n] [] [] [] []
theorem ztv (X : Type) (n : Nat) : CxOK Tryz.prog SW (cx134 X n):=mx (T1 (J Tryz.func134 (by decide))) (J (zb (ok190 n)) (T1 (zb (ok191 n)))) (T1 (okc trivial trivial)) trivial
abbrev P134 : List SV:=[V6,V6]
abbrev R134 : RV:=.many [V6,.bool]
theorem ok134 (n : Nat) : FO 134 P134 R134 (F.zbi n):=zf WOf.st (ztv _ n) (d:=8) fun _ => by kernel_rfl
noncomputable def o134 (n : Nat):=oc 134 P134 R134 (F.zbi n)
def qh2 : Shape:=⟨[(1,(.const (.ref 0 0))),(2,(.const (.ref 1 0)))],[[.bool,V6,V0],[.bool,V6,V0]],[],[],[],2,0,0⟩
def qe2_0 : Shape:=⟨[(1,(.const (.ref 0 0))),(2,(.const (.ref 1 0)))],[[.bool,V6,V0],[.bool,V6,V0]],[],[],[],2,0,0⟩
noncomputable def ql2 (X : Type) (n : Nat) : LoopI X:=mkLi 8 0 0 0 qh2 [(0,qe2_0)] [] n fun m ks => F.zf.L3 n (xe qe2_0 ks 0) m
def qh3 : Shape:=⟨[(1,(.const (.ref 0 0))),(2,(.const (.ref 1 0)))],[[.bool,V6,V0],[.bool,V6,V0]],[],[],[],2,0,0⟩
def qe3_2 : Shape:=⟨[(1,(.const (.ref 0 0))),(2,(.const (.ref 1 0)))],[[.bool,V6,V0],[.bool,V6,V0]],[],[],[],2,0,0⟩
def qe3_r : Shape:=⟨[(2,(.const (.ref 1 0))),(3,V0)],[[.bool,V6,V0],[.bool,V6,V0]],[],[],[],2,0,0⟩
noncomputable def ql3 (X : Type) (n : Nat) : LoopI X:=mkLi 8 0 0 0 qh3 [(2,qe3_2)] [qe3_r] n fun m ks => F.zf.L5 n (xe qe3_2 ks 2) (xr qe3_r ks) m
noncomputable def cx67 (X : Type) (n : Nat) : Cx X:=mkCx tab.get [(67,Tryz.f67)] [o134 n] [(67,3,[ql2 X n]),(67,5,[ql3 X n])] [] [] []
theorem qo2 (X : Type) (n : Nat) : LO (cx67 X n) 67 Tryz.f67 0 (ql2 X n):=lok
theorem qo3 (X : Type) (n : Nat) : LO (cx67 X n) 67 Tryz.f67 1 (ql3 X n):=lok
theorem zwz (X : Type) (n : Nat) : CxOK Tryz.prog SW (cx67 X n):=mx (T1 (J Tryz.func67 (by decide))) (T1 (zb (ok134 n))) (T1 (okc (J (T1 (qo2 X n)) (T1 (T1 (qo3 X n)))) trivial)) trivial
abbrev P67 : List SV:=[V7]
abbrev R67 : RV:=.many [V7,V0]
theorem ok67 (n : Nat) : FO 67 P67 R67 (F.zf n):=zf WOf.st (zwz _ n) (d:=8) fun _ => by kernel_rfl
noncomputable def o67 (n : Nat):=oc 67 P67 R67 (F.zf n)
abbrev P169 : List SV:=[.str,.str]
abbrev R169 : RV:=.one .str
theorem ok169 (n : Nat) : FO 169 P169 R169 (O.trimR n):=zti (enters Tryz.func169 (by kernel_rfl) (by decide)) Tryz.strings_TrimRight_one n
noncomputable def o169 (n : Nat):=oc 169 P169 R169 (O.trimR n)
noncomputable def cx175 (X : Type) (n : Nat) : Cx X:=mkCx tab.get [(175,Tryz.f175)] [] [] [] [] []
theorem ztw (X : Type) (n : Nat) : CxOK Tryz.prog SW (cx175 X n):=mx (T1 (J Tryz.func175 (by decide))) trivial (T1 (okc trivial trivial)) trivial
abbrev P175 : List SV:=[.str,.str]
abbrev R175 : RV:=.one .bool
theorem ok175 (n : Nat) : FO 175 P175 R175 (F.z8 n):=zf WOf.st (ztw _ n) (d:=8) fun _ => by kernel_rfl
noncomputable def o175 (n : Nat):=oc 175 P175 R175 (F.z8 n)
noncomputable def cx118 (X : Type) (n : Nat) : Cx X:=mkCx tab.get [(118,Tryz.f118)] [o175 n] [] [] [] []
theorem ztx (X : Type) (n : Nat) : CxOK Tryz.prog SW (cx118 X n):=mx (T1 (J Tryz.func118 (by decide))) (T1 (zb (ok175 n))) (T1 (okc trivial trivial)) trivial
abbrev P118 : List SV:=[.str,.str]
abbrev R118 : RV:=.one .bool
theorem ok118 (n : Nat) : FO 118 P118 R118 (F.z6 n):=zf WOf.st (ztx _ n) (d:=8) fun _ => by kernel_rfl
noncomputable def o118 (n : Nat):=oc 118 P118 R118 (F.z6 n)
def qh4 : Shape:=⟨[(0,(.const (.ref 2 0))),(1,(.const (.ref 0 0))),(3,V0)],[[.str],[V0,V0],[V0]],[],[],[],3,0,0⟩
def qe4_0 : Shape:=⟨[(0,(.const (.ref 2 0))),(3,V0)],[[.str],[V0,V0],[V0]],[],[],[],3,0,0⟩
noncomputable def ql4 (X : Type) (n : Nat) : LoopI X:=mkLi 7 3 0 0 qh4 [(0,qe4_0)] [] n fun m ks => F.zab.L2_dec_look_1 n (xe qe4_0 ks 0) m
noncomputable def cx172 (X : Type) (n : Nat) : Cx X:=mkCx tab.get [(172,Tryz.f172),(211,Tryz.f211)] [o118 n] [(211,2,[ql4 X n])] [] [] []
theorem qo4 (X : Type) (n : Nat) : LO (cx172 X n) 211 Tryz.f211 0 (ql4 X n):=lok
theorem zty (X : Type) (n : Nat) : CxOK Tryz.prog SW (cx172 X n):=mx (J (J Tryz.func172 (by decide)) (T1 (J Tryz.func211 (by decide)))) (T1 (zb (ok118 n))) (J (okc trivial trivial) (T1 (okc (T1 (T1 (qo4 X n))) trivial))) trivial
abbrev P172 : List SV:=[.str]
abbrev R172 : RV:=.one V2
theorem ok172 (n : Nat) : FO 172 P172 R172 (F.zab n):=zf WOf.st (zty _ n) (d:=8) fun _ => by kernel_rfl
noncomputable def o172 (n : Nat):=oc 172 P172 R172 (F.zab n)
noncomputable def cx212 (X : Type) (n : Nat) : Cx X:=mkCx tab.get [(212,Tryz.f212)] [o175 n] [] [] [] []
theorem ztz (X : Type) (n : Nat) : CxOK Tryz.prog SW (cx212 X n):=mx (T1 (J Tryz.func212 (by decide))) (T1 (zb (ok175 n))) (T1 (okc trivial trivial)) trivial
abbrev P212 : List SV:=[.str,.str]
abbrev R212 : RV:=.many [.str,.bool]
theorem ok212 (n : Nat) : FO 212 P212 R212 (F.zao n):=zf WOf.st (ztz _ n) (d:=8) fun _ => by kernel_rfl
noncomputable def o212 (n : Nat):=oc 212 P212 R212 (F.zao n)
noncomputable def cx173 (X : Type) (n : Nat) : Cx X:=mkCx tab.get [(173,Tryz.f173)] [o212 n] [] [] [] []
theorem zt0 (X : Type) (n : Nat) : CxOK Tryz.prog SW (cx173 X n):=mx (T1 (J Tryz.func173 (by decide))) (T1 (zb (ok212 n))) (T1 (okc trivial trivial)) trivial
abbrev P173 : List SV:=[.str,.str]
abbrev R173 : RV:=.many [.str,.bool]
theorem ok173 (n : Nat) : FO 173 P173 R173 (F.z7 n):=zf WOf.st (zt0 _ n) (d:=8) fun _ => by kernel_rfl
noncomputable def o173 (n : Nat):=oc 173 P173 R173 (F.z7 n)
abbrev P174 : List SV:=[.str,.str]
abbrev R174 : RV:=.one .str
theorem ok174 (n : Nat) : FO 174 P174 R174 (O.trimL n):=ztj (enters Tryz.func174 (by kernel_rfl) (by decide)) Tryz.strings_TrimLeft_one n
noncomputable def o174 (n : Nat):=oc 174 P174 R174 (O.trimL n)
def qh5 : Shape:=⟨[(2,(.const (.ref 0 0))),(3,(.const (.ref 1 0))),(10,.str),(11,(.const (.ref 3 0))),(66,V0),(67,V0)],[[.bool,V6,V0],[V0,V0],[V0,V0],[.bool,V6,V0]],[],[],[],4,0,0⟩
def qe5_0 : Shape:=⟨[(2,(.const (.ref 0 0))),(3,(.const (.ref 1 0))),(11,(.const (.ref 3 0)))],[[.bool,V6,V0],[V0,V0],[V0,V0],[.bool,V6,V0]],[],[],[],4,0,0⟩
noncomputable def ql5 (X : Type) (n : Nat) : LoopI X:=mkLi 8 0 0 0 qh5 [(0,qe5_0)] [] n fun m ks => F.z1.L14 n (xe qe5_0 ks 0) m
noncomputable def cx116 (X : Type) (n : Nat) : Cx X:=mkCx tab.get [(116,Tryz.f116)] [o67 n,o113 n,o134 n,o169 n,o172 n,o173 n,o174 n] [(116,14,[ql5 X n])] [] [(116,3,[(1,2)])] []
theorem qo5 (X : Type) (n : Nat) : LO (cx116 X n) 116 Tryz.f116 0 (ql5 X n):=lok
theorem zt1 (X : Type) (n : Nat) : CxOK Tryz.prog SW (cx116 X n):=mx (T1 (J Tryz.func116 (by decide))) (J (zb (ok67 n)) (J (zb (ok113 n)) (J (zb (ok134 n)) (J (zb (ok169 n)) (J (zb (ok172 n)) (J (zb (ok173 n)) (T1 (zb (ok174 n))))))))) (T1 (okc (T1 (T1 (qo5 X n))) trivial)) trivial
abbrev P116 : List SV:=[.str]
abbrev R116 : RV:=.many [V7,V2]
theorem ok116 (n : Nat) : FO 116 P116 R116 (F.z1 n):=zf WOf.st (zt1 _ n) (d:=8) fun _ => by kernel_rfl
noncomputable def o116 (n : Nat):=oc 116 P116 R116 (F.z1 n)
abbrev P109 : List SV:=[V0]
abbrev R109 : RV:=.many [.str,V0]
theorem ok109 (n : Nat) : FO 109 P109 R109 (O.word n):=zwx (enters Tryz.func109 (by kernel_rfl) (by decide)) Tryz.statsd_Word n
noncomputable def o109 (n : Nat):=oc 109 P109 R109 (O.word n)
def qh6 : Shape:=⟨[(0,.str),(4,V0)],[],[],[],[],0,0,0⟩
def qe6_0 : Shape:=⟨[],[],[],[],[],0,0,0⟩
def qe6_r : Shape:=⟨[(2,V0),(3,V0)],[],[],[],[],0,0,0⟩
noncomputable def ql6 (X : Type) (n : Nat) : LoopI X:=mkLi 8 0 0 0 qh6 [(0,qe6_0)] [qe6_r] n fun m ks => F.zz.L2 n (fun _ => xe qe6_0 ks 0) (xr qe6_r ks) m
noncomputable def cx117 (X : Type) (n : Nat) : Cx X:=mkCx tab.get [(117,Tryz.f117)] [o109 n] [(117,2,[ql6 X n])] [] [] []
theorem qo6 (X : Type) (n : Nat) : LO (cx117 X n) 117 Tryz.f117 0 (ql6 X n):=lok
theorem zt2 (X : Type) (n : Nat) : CxOK Tryz.prog SW (cx117 X n):=mx (T1 (J Tryz.func117 (by decide))) (T1 (zb (ok109 n))) (T1 (okc (T1 (T1 (qo6 X n))) trivial)) trivial
abbrev P117 : List SV:=[.str]
abbrev R117 : RV:=.many [V0,V0]
theorem ok117 (n : Nat) : FO 117 P117 R117 (F.zz n):=zf WOf.st (zt2 _ n) (d:=8) fun _ => by kernel_rfl
noncomputable def o117 (n : Nat):=oc 117 P117 R117 (F.zz n)
noncomputable def cx176 (X : Type) (n : Nat) : Cx X:=mkCx tab.get [(176,Tryz.f176)] [] [] [] [] []
theorem zt3 (X : Type) (n : Nat) : CxOK Tryz.prog SW (cx176 X n):=mx (T1 (J Tryz.func176 (by decide))) trivial (T1 (okc trivial trivial)) trivial
abbrev P176 : List SV:=[V0,V0]
abbrev R176 : RV:=.many [V0,V2]
theorem ok176 (n : Nat) : FO 176 P176 R176 (F.zac n):=zf WOf.st (zt3 _ n) (d:=8) fun _ => by kernel_rfl
noncomputable def o176 (n : Nat):=oc 176 P176 R176 (F.zac n)
def qh7 : Shape:=⟨[(0,.str),(3,(.const (.ref 0 0))),(4,(.const (.ref 1 0))),(16,V8),(17,V0)],[[V0,V0],[V0,V0]],[],[],[],2,0,0⟩
def qe7_0 : Shape:=⟨[(0,.str),(3,(.const (.ref 0 0))),(4,(.const (.ref 1 0)))],[[V0,V0],[V0,V0]],[],[],[],2,0,0⟩
noncomputable def ql7 (X : Type) (n : Nat) : LoopI X:=mkLi 8 0 0 0 qh7 [(0,qe7_0)] [] n fun m ks => F.zq.L5 n (xe qe7_0 ks 0) m
def qh8 : Shape:=⟨[(3,(.const (.ref 0 0))),(7,.str),(9,(.const (.ref 3 0))),(10,(.const (.fn 177 [] [(.ref 3 0)]))),(81,V0)],[[V0,V0],[V0,V0],[V0,V0],[V0]],[],[],[],4,0,0⟩
def qe8_3 : Shape:=⟨[(3,(.const (.ref 0 0))),(9,(.const (.ref 3 0)))],[[V0,V0],[V0,V0],[V0,V0],[V0]],[],[],[],4,0,0⟩
noncomputable def ql8 (X : Type) (n : Nat) : LoopI X:=mkLi 8 0 0 0 qh8 [(3,qe8_3)] [] n fun m ks => F.zq.L23 n (xe qe8_3 ks 3) m
noncomputable def cx119 (X : Type) (n : Nat) : Cx X:=mkCx tab.get [(119,Tryz.f119),(177,Tryz.f177)] [o114 n,o176 n] [(119,5,[ql7 X n]),(119,23,[ql8 X n])] [] [] []
theorem qo7 (X : Type) (n : Nat) : LO (cx119 X n) 119 Tryz.f119 0 (ql7 X n):=lok
theorem qo8 (X : Type) (n : Nat) : LO (cx119 X n) 119 Tryz.f119 1 (ql8 X n):=lok
theorem zt4 (X : Type) (n : Nat) : CxOK Tryz.prog SW (cx119 X n):=mx (J (J Tryz.func119 (by decide)) (T1 (J Tryz.func177 (by decide)))) (J (zb (ok114 n)) (T1 (zb (ok176 n)))) (J (okc (J (T1 (qo7 X n)) (T1 (T1 (qo8 X n)))) trivial) (T1 (okc trivial trivial))) trivial
abbrev P119 : List SV:=[.str]
abbrev R119 : RV:=.many [V0,V2]
theorem ok119 (n : Nat) : FO 119 P119 R119 (F.zq n):=zf WOf.st (zt4 _ n) (d:=8) fun _ => by kernel_rfl
noncomputable def o119 (n : Nat):=oc 119 P119 R119 (F.zq n)
def qh9 : Shape:=⟨[(2,(.const (.ref 1 0))),(3,(.const (.ref 2 0))),(4,(.const (.ref 3 0))),(6,(.const (.ref 4 0))),(9,.bool),(19,V0),(141,.bool)],[[.str],[.str,V0,(.sl Y2 (.own 0)),V0,(.sl Y3 (.own 1)),V0],[V0,V0],[V0],[.str,V0,(.sl Y2 (.own 2)),V0,(.sl Y3 (.own 3)),V0]],[true,true,true,true],[],[],5,0,0⟩
def qe9_r : Shape:=⟨[(2,(.const (.ref 1 0))),(3,(.const (.ref 2 0)))],[[.str],[.str,V0,V3,V0,V4,V0],[V0,V0]],[],[],[],3,0,0⟩
def qe9_n : Shape:=⟨[(2,(.const (.ref 1 0))),(3,(.const (.ref 2 0))),(4,(.const (.ref 3 0))),(6,(.const (.ref 4 0))),(9,.bool)],[[.str],[.str,V0,(.sl Y2 (.own 0)),V0,(.sl Y3 (.own 1)),V0],[V0,V0],[V0],[.str,V0,(.sl Y2 (.own 2)),V0,(.sl Y3 (.own 3)),V0]],[true,true,true,true],[],[],5,0,0⟩
noncomputable def ql9 (X : Type) (n : Nat) : CutI X:=mkCi 8 0 0 0 qh9 [qe9_n] [] [qe9_r] fun ks => F.za.C30 n (xr qe9_r ks) (xn qe9_n ks)
def qh10 : Shape:=⟨[(2,(.const (.ref 1 0))),(3,(.const (.ref 2 0))),(4,(.const (.ref 3 0))),(6,(.const (.ref 4 0))),(9,.bool)],[[.str],[.str,V0,(.sl Y2 (.own 0)),V0,(.sl Y3 (.own 1)),V0],[V0,V0],[V0],[.str,V0,(.sl Y2 (.own 2)),V0,(.sl Y3 (.own 3)),V0]],[true,true,true,true],[],[],5,0,0⟩
def qe10_r : Shape:=⟨[(2,(.const (.ref 1 0))),(3,(.const (.ref 2 0)))],[[.str],[.str,V0,V3,V0,V4,V0],[V0,V0]],[],[],[],3,0,0⟩
noncomputable def ql10 (X : Type) (n : Nat) : CutI X:=mkCi 8 0 0 0 qh10 [] [] [qe10_r] fun ks => F.za.C31 n (xr qe10_r ks)
def qh11 : Shape:=⟨[(2,(.const (.ref 1 0))),(3,(.const (.ref 2 0))),(4,(.const (.ref 3 0))),(6,(.const (.ref 4 0))),(9,.bool),(13,(.const (.ref 6 0))),(16,V0),(18,.str),(19,V0)],[[.str],[.str,V0,(.sl Y2 (.own 0)),V0,(.sl Y3 (.own 1)),V0],[V0,V0],[V0],[.str,V0,(.sl Y2 (.own 2)),V0,(.sl Y3 (.own 3)),V0],[.bool,V6,V0],[V0,V0]],[true,true,true,true],[],[],7,0,0⟩
def qe11_r : Shape:=⟨[(2,(.const (.ref 1 0))),(3,(.const (.ref 2 0)))],[[.str],[.str,V0,V3,V0,V4,V0],[V0,V0]],[],[],[],3,0,0⟩
noncomputable def ql11 (X : Type) (n : Nat) : CutI X:=mkCi 8 0 0 0 qh11 [] [] [qe11_r] fun ks => F.za.C28 n (xr qe11_r ks)
def qh12 : Shape:=⟨[(1,(.const (.ref 0 0))),(2,(.const (.ref 1 0))),(3,(.const (.ref 2 0))),(4,(.const (.ref 3 0))),(5,(.const (.fn 112 [] [(.ref 3 0),(.ref 0 0)]))),(6,(.const (.ref 4 0))),(7,.str),(9,.bool),(12,(.const (.ref 5 0))),(13,(.const (.ref 6 0))),(16,V0)],[[.str],[.str,V0,(.sl Y2 (.own 0)),V0,(.sl Y3 (.own 1)),V0],[V0,V0],[V0],[.str,V0,(.sl Y2 (.own 2)),V0,(.sl Y3 (.own 3)),V0],[.bool,V6,V0],[V0,V0]],[true,true,true,true],[],[],7,0,0⟩
def qe12_r : Shape:=⟨[(2,(.const (.ref 1 0))),(3,(.const (.ref 2 0)))],[[.str],[.str,V0,V3,V0,V4,V0],[V0,V0]],[],[],[],3,0,0⟩
noncomputable def ql12 (X : Type) (n : Nat) : CutI X:=mkCi 8 0 0 0 qh12 [] [] [qe12_r] fun ks => F.za.C21 n (xr qe12_r ks)
def qh13 : Shape:=⟨[(1,(.const (.ref 0 0))),(2,(.const (.ref 1 0))),(3,(.const (.ref 2 0))),(4,(.const (.ref 3 0))),(5,(.const (.fn 112 [] [(.ref 3 0),(.ref 0 0)]))),(6,(.const (.ref 4 0))),(7,.str),(9,.bool),(10,.str),(11,V0),(12,(.const (.ref 5 0))),(13,(.const (.ref 6 0))),(14,.str),(15,V0)],[[.str],[.str,V0,(.sl Y2 (.own 0)),V0,(.sl Y3 (.own 1)),V0],[V0,V0],[V0],[.str,V0,(.sl Y2 (.own 2)),V0,(.sl Y3 (.own 3)),V0],[.bool,V6,V0],[V0,V0]],[true,true,true,true],[],[],7,0,0⟩
def qe13_r : Shape:=⟨[(2,(.const (.ref 1 0))),(3,(.const (.ref 2 0)))],[[.str],[.str,V0,V3,V0,V4,V0],[V0,V0]],[],[],[],3,0,0⟩
noncomputable def ql13 (X : Type) (n : Nat) : CutI X:=mkCi 8 0 0 0 qh13 [] [] [qe13_r] fun ks => F.za.C16 n (xr qe13_r ks)
def qh14 : Shape:=⟨[(1,(.const (.ref 0 0))),(2,(.const (.ref 1 0))),(3,(.const (.ref 2 0))),(4,(.const (.ref 3 0))),(5,(.const (.fn 112 [] [(.ref 3 0),(.ref 0 0)]))),(6,(.const (.ref 4 0))),(7,.str),(9,.bool),(10,.str),(11,V0)],[[.str],[.str,V0,(.sl Y2 (.own 0)),V0,(.sl Y3 (.own 1)),V0],[V0,V0],[V0],[.str,V0,(.sl Y2 (.own 2)),V0,(.sl Y3 (.own 3)),V0]],[true,true,true,true],[],[],5,0,0⟩
def qe14_r : Shape:=⟨[(2,(.const (.ref 1 0))),(3,(.const (.ref 2 0)))],[[.str],[.str,V0,V3,V0,V4,V0],[V0,V0]],[],[],[],3,0,0⟩
noncomputable def ql14 (X : Type) (n : Nat) : CutI X:=mkCi 8 0 0 0 qh14 [] [] [qe14_r] fun ks => F.za.C10 n (xr qe14_r ks)
def qh15 : Shape:=⟨[(1,(.const (.ref 0 0))),(2,(.const (.ref 1 0))),(3,(.const (.ref 2 0))),(4,(.const (.ref 3 0))),(5,(.const (.fn 112 [] [(.ref 3 0),(.ref 0 0)]))),(6,(.const (.ref 4 0))),(7,.str),(9,.bool)],[[.str],[.str,V0,(.sl Y2 (.own 0)),V0,(.sl Y3 (.own 1)),V0],[V0,V0],[V0],[.str,V0,(.sl Y2 (.own 2)),V0,(.sl Y3 (.own 3)),V0]],[true,true,true,true],[],[],5,0,0⟩
def qe15_r : Shape:=⟨[(2,(.const (.ref 1 0))),(3,(.const (.ref 2 0)))],[[.str],[.str,V0,V3,V0,V4,V0],[V0,V0]],[],[],[],3,0,0⟩
noncomputable def ql15 (X : Type) (n : Nat) : CutI X:=mkCi 8 0 0 0 qh15 [] [] [qe15_r] fun ks => F.za.C5 n (xr qe15_r ks)
noncomputable def cx58 (X : Type) (n : Nat) : Cx X:=mkCx tab.get [(58,Tryz.f58),(112,Tryz.f112)] [o113 n,o114 n,o115 n,o116 n,o117 n,o118 n,o119 n] [] [] [(58,21,[(2,5),(2,7)])] [] [(58,5,[ql15 X n]),(58,10,[ql14 X n]),(58,16,[ql13 X n]),(58,21,[ql12 X n]),(58,28,[ql11 X n]),(58,30,[ql9 X n]),(58,31,[ql10 X n])]
theorem qo9 (X : Type) (n : Nat) : CO (cx58 X n) 58 Tryz.f58 37 (ql9 X n):=fun _ _ => by kernel_rfl
theorem qo10 (X : Type) (n : Nat) : CO (cx58 X n) 58 Tryz.f58 36 (ql10 X n):=fun _ _ => by kernel_rfl
theorem qo11 (X : Type) (n : Nat) : CO (cx58 X n) 58 Tryz.f58 34 (ql11 X n):=fun _ _ => by kernel_rfl
theorem qo12 (X : Type) (n : Nat) : CO (cx58 X n) 58 Tryz.f58 21 (ql12 X n):=fun _ _ => by kernel_rfl
theorem qo13 (X : Type) (n : Nat) : CO (cx58 X n) 58 Tryz.f58 19 (ql13 X n):=fun _ _ => by kernel_rfl
theorem qo14 (X : Type) (n : Nat) : CO (cx58 X n) 58 Tryz.f58 11 (ql14 X n):=fun _ _ => by kernel_rfl
theorem qo15 (X : Type) (n : Nat) : CO (cx58 X n) 58 Tryz.f58 4 (ql15 X n):=fun _ _ => by kernel_rfl
theorem zw0 (X : Type) (n : Nat) : CxOK Tryz.prog SW (cx58 X n):=mx (J (J Tryz.func58 (by decide)) (T1 (J Tryz.func112 (by decide)))) (J (zb (ok113 n)) (J (zb (ok114 n)) (J (zb (ok115 n)) (J (zb (ok116 n)) (J (zb (ok117 n)) (J (zb (ok118 n)) (T1 (zb (ok119 n))))))))) (J (okk (J trivial (J trivial (J trivial (J trivial (J (T1 (qo15 X n)) (J trivial (J trivial (J trivial (J trivial (J trivial (J trivial (J (T1 (qo14 X n)) (J trivial (J trivial (J trivial (J trivial (J trivial (J trivial (J trivial (J (T1 (qo13 X n)) (J trivial (J (T1 (qo12 X n)) (J trivial (J trivial (J trivial (J trivial (J trivial (J trivial (J trivial (J trivial (J trivial (J trivial (J trivial (J trivial (J (T1 (qo11 X n)) (J trivial (J (T1 (qo10 X n)) (J (T1 (qo9 X n)) (J trivial (J trivial (J trivial (J trivial (T1 trivial))))))))))))))))))))))))))))))))))))))))))) trivial trivial) (T1 (okc trivial trivial))) trivial
abbrev P58 : List SV:=[.str]
abbrev R58 : RV:=.many [V5,V2]
theorem ok58 (n : Nat) : FO 58 P58 R58 (F.za n):=zf WOf.st (zw0 _ n) (d:=8) fun _ => by kernel_rfl
noncomputable def o58 (n : Nat):=oc 58 P58 R58 (F.za n)
noncomputable def cx140 (X : Type) (n : Nat) : Cx X:=mkCx tab.get [(140,Tryz.f140)] [] [] [] [] []
theorem zt5 (X : Type) (n : Nat) : CxOK Tryz.prog SW (cx140 X n):=mx (T1 (J Tryz.func140 (by decide))) trivial (T1 (okc trivial trivial)) trivial
abbrev P140 : List SV:=[V4]
abbrev R140 : RV:=.one V4
theorem ok140 (n : Nat) : FO 140 P140 R140 (F.zp n):=zf WOf.st (zt5 _ n) (d:=8) fun _ => by kernel_rfl
noncomputable def o140 (n : Nat):=oc 140 P140 R140 (F.zp n)
def qh16 : Shape:=⟨[(3,(.ms 2 Y3)),(4,V0),(11,(.ms 2 Y3)),(12,V0),(13,V0)],[[(.row Y3)],[(.row Y3)],[(.row Y3)]],[],[],[],3,0,0⟩
def qe16_0 : Shape:=⟨[(3,(.ms 2 Y3)),(4,V0)],[[(.row Y3)],[(.row Y3)],[(.row Y3)]],[],[],[],3,0,0⟩
noncomputable def ql16 (X : Type) (n : Nat) : LoopI X:=mkLi 8 0 0 0 qh16 [(0,qe16_0)] [] n fun m ks => F.zr.L5 n (xe qe16_0 ks 0) m
noncomputable def cx68 (X : Type) (n : Nat) : Cx X:=mkCx tab.get [(68,Tryz.f68),(135,Tryz.f135)] [o140 n] [(68,5,[ql16 X n])] [] [] [] [] [(34,Y3)] [(136,.sort Y3 137 sortTags)] none [135]
theorem qo16 (X : Type) (n : Nat) : LO (cx68 X n) 68 Tryz.f68 0 (ql16 X n):=lok
theorem zw1 (X : Type) (n : Nat) : CxOK Tryz.prog SW (cx68 X n):=mx (J (J Tryz.func68 (by decide)) (T1 (J Tryz.func135 (by decide)))) (T1 (zb (ok140 n))) (J (okc (T1 (T1 (qo16 X n))) trivial) (T1 (okc trivial trivial))) trivial (T1 (znd.mono (fun _ _ => trivial)))
abbrev P68 : List SV:=[V4]
abbrev R68 : RV:=.one V4
theorem ok68 (n : Nat) : FO 68 P68 R68 (F.zr n):=zf WOf.st (zw1 _ n) (d:=8) fun _ => by kernel_rfl
noncomputable def o68 (n : Nat):=oc 68 P68 R68 (F.zr n)
abbrev P126 : List SV:=[.str,.str]
abbrev R126 : RV:=.one V9
theorem ok126 (n : Nat) : FO 126 P126 R126 (O.split1 n):=zri (enters Tryz.func126 (by kernel_rfl) (by decide)) Tryz.strings_Split_one n
noncomputable def o126 (n : Nat):=oc 126 P126 R126 (O.split1 n)
noncomputable def cx179 (X : Type) (n : Nat) : Cx X:=mkCx tab.get [(179,Tryz.f179)] [] [] [] [] []
theorem zt6 (X : Type) (n : Nat) : CxOK Tryz.prog SW (cx179 X n):=mx (T1 (J Tryz.func179 (by decide))) trivial (T1 (okc trivial trivial)) trivial
abbrev P179 : List SV:=[]
abbrev R179 : RV:=.one V10
theorem ok179 (n : Nat) : FO 179 P179 R179 (F.zbn n):=zf WOf.st (zt6 _ n) (d:=8) fun _ => by kernel_rfl
noncomputable def o179 (n : Nat):=oc 179 P179 R179 (F.zbn n)
def qh17 : Shape:=⟨[(0,.str),(6,V10),(7,V0)],[],[],[],[],0,0,0⟩
def qe17_0 : Shape:=⟨[],[],[],[],[],0,0,0⟩
def qe17_r : Shape:=⟨[(2,V0),(3,V0)],[],[],[],[],0,0,0⟩
noncomputable def ql17 (X : Type) (n : Nat) : LoopI X:=mkLi 8 0 0 0 qh17 [(0,qe17_0)] [qe17_r] n fun m ks => F.za0.L2 n (fun _ => xe qe17_0 ks 0) (xr qe17_r ks) m
noncomputable def cx183 (X : Type) (n : Nat) : Cx X:=mkCx tab.get [(183,Tryz.f183)] [o179 n] [(183,2,[ql17 X n])] [] [] []
theorem qo17 (X : Type) (n : Nat) : LO (cx183 X n) 183 Tryz.f183 0 (ql17 X n):=lok
theorem zt7 (X : Type) (n : Nat) : CxOK Tryz.prog SW (cx183 X n):=mx (T1 (J Tryz.func183 (by decide))) (T1 (zb (ok179 n))) (T1 (okc (T1 (T1 (qo17 X n))) trivial)) trivial
abbrev P183 : List SV:=[.str]
abbrev R183 : RV:=.many [V0,V0]
theorem ok183 (n : Nat) : FO 183 P183 R183 (F.za0 n):=zf WOf.st (zt7 _ n) (d:=8) fun _ => by kernel_rfl
noncomputable def o183 (n : Nat):=oc 183 P183 R183 (F.za0 n)
abbrev P250 : List SV:=[.str]
abbrev R250 : RV:=.many [V0,.err]
theorem ok250 (n : Nat) : FO 250 P250 R250 (O.atoi n):=zwu (enters Tryz.func250 (by kernel_rfl) (by decide)) (fun s hs v hv w hw => (Tryz.strconv_Atoi_ok s (by omega) v hv w).mono fun e w' ⟨a,b⟩ => ⟨a,by rcases b with rfl | ⟨t,rfl⟩; exact Below.refl _ _; exact zm9⟩)
  (fun s hs n1 n2 w hw => by obtain ⟨ev,hv,hev⟩:=swErrS hw; exact (Any.strconv_Atoi_syntax Tryz.laysC172 s (by omega) (by cases hq : Lib.atoiAll s.data.toList with | ok v => exact absurd hq (n1 v) | range => exact absurd hq n2 | _ => rfl) ev w hv hev).mono fun e w' ⟨N,a,_,_,b⟩ => ⟨⟨_,_,a⟩,b⟩)
  (fun s hs hq w hw => by obtain ⟨ev,hv,hev⟩:=swErrR hw; exact (Any.strconv_Atoi_range Tryz.laysC172 s (by omega) hq ev w hv hev).mono fun e w' ⟨N,a,_,_,b⟩ => ⟨⟨_,_,a⟩,b⟩) n
noncomputable def o250 (n : Nat):=oc 250 P250 R250 (O.atoi n)
noncomputable def cx221 (X : Type) (n : Nat) : Cx X:=mkCx tab.get [(221,Tryz.f221)] [o114 n,o176 n,o250 n] [] [] [] []
theorem zt8 (X : Type) (n : Nat) : CxOK Tryz.prog SW (cx221 X n):=mx (T1 (J Tryz.func221 (by decide))) (J (zb (ok114 n)) (J (zb (ok176 n)) (T1 (zb (ok250 n))))) (T1 (okc trivial trivial)) trivial
abbrev P221 : List SV:=[.str,V0,V0]
abbrev R221 : RV:=.many [V0,V2]
theorem ok221 (n : Nat) : FO 221 P221 R221 (F.zbo n):=zf WOf.st (zt8 _ n) (d:=8) fun _ => by kernel_rfl
noncomputable def o221 (n : Nat):=oc 221 P221 R221 (F.zbo n)
noncomputable def cx188 (X : Type) (n : Nat) : Cx X:=mkCx tab.get [(188,Tryz.f188)] [o221 n] [] [] [] []
theorem zt9 (X : Type) (n : Nat) : CxOK Tryz.prog SW (cx188 X n):=mx (T1 (J Tryz.func188 (by decide))) (T1 (zb (ok221 n))) (T1 (okc trivial trivial)) trivial
abbrev P188 : List SV:=[.str]
abbrev R188 : RV:=.many [V0,V2]
theorem ok188 (n : Nat) : FO 188 P188 R188 (F.zbk n):=zf WOf.st (zt9 _ n) (d:=8) fun _ => by kernel_rfl
noncomputable def o188 (n : Nat):=oc 188 P188 R188 (F.zbk n)
noncomputable def cx162 (X : Type) (n : Nat) : Cx X:=mkCx tab.get [(162,Tryz.f162)] [o114 n] [] [] [] []
theorem zua (X : Type) (n : Nat) : CxOK Tryz.prog SW (cx162 X n):=mx (T1 (J Tryz.func162 (by decide))) (T1 (zb (ok114 n))) (T1 (okc trivial trivial)) trivial
abbrev P162 : List SV:=[V11]
abbrev R162 : RV:=.one V0
theorem ok162 (n : Nat) : FO 162 P162 R162 (F.zbe n):=zf WOf.st (zua _ n) (d:=8) fun _ => by kernel_rfl
noncomputable def o162 (n : Nat):=oc 162 P162 R162 (F.zbe n)
def qh18 : Shape:=⟨[(3,(.const (.ref 0 0))),(4,(.sl Y3 (.own 0))),(5,V0),(13,V9),(14,V0),(15,V0)],[[V0,V0]],[true],[],[],1,0,0⟩
def qe18_0 : Shape:=⟨[(3,(.const (.ref 0 0))),(4,(.sl Y3 (.own 0)))],[[V0,V0]],[true],[],[],1,0,0⟩
def qe18_r : Shape:=⟨[(2,(.sl Y3 (.own 0))),(3,(.const (.ref 0 0)))],[[V0,V0]],[true],[],[],1,0,0⟩
noncomputable def ql18 (X : Type) (n : Nat) : LoopI X:=mkLi 8 0 0 0 qh18 [(0,qe18_0)] [qe18_r] n fun m ks => F.zag.L4 n (xe qe18_0 ks 0) (xr qe18_r ks) m
noncomputable def cx220 (X : Type) (n : Nat) : Cx X:=mkCx tab.get [(220,Tryz.f220)] [o113 n,o126 n,o162 n] [(220,4,[ql18 X n])] [] [] []
theorem qo18 (X : Type) (n : Nat) : LO (cx220 X n) 220 Tryz.f220 0 (ql18 X n):=lok
theorem zub (X : Type) (n : Nat) : CxOK Tryz.prog SW (cx220 X n):=mx (T1 (J Tryz.func220 (by decide))) (J (zb (ok113 n)) (J (zb (ok126 n)) (T1 (zb (ok162 n))))) (T1 (okc (T1 (T1 (qo18 X n))) trivial)) trivial
abbrev P220 : List SV:=[.str]
abbrev R220 : RV:=.many [V4,V2]
theorem ok220 (n : Nat) : FO 220 P220 R220 (F.zag n):=zf WOf.st (zub _ n) (d:=8) fun _ => by kernel_rfl
noncomputable def o220 (n : Nat):=oc 220 P220 R220 (F.zag n)
def qh19 : Shape:=⟨[(0,(.const (.ref 2 0))),(4,(.const (.ref 4 0))),(8,V0),(42,V9),(43,V0),(44,V0)],[[.str,V0,(.sl Y2 (.own 0)),V0,(.sl Y3 (.own 1)),V0],[V0,V0],[.str,V0,(.sl Y2 (.own 2)),V0,V4,V0,V0,V0],[V0,V0],[V0,V0]],[true,true,true],[],[],5,3,0⟩
def qe19_1 : Shape:=⟨[(4,(.const (.ref 4 0)))],[[.str,V0,(.sl Y2 (.own 0)),V0,(.sl Y3 (.own 1)),V0],[V0,V0],[.str,V0,(.sl Y2 (.own 2)),V0,V4,V0,V0,V0],[V0,V0],[V0,V0]],[true,true,true],[],[],5,3,0⟩
def qe19_r : Shape:=⟨[(4,(.const (.ref 4 0)))],[[.str,V0,(.sl Y2 (.own 0)),V0,(.sl Y3 (.own 1)),V0],[V0,V0],[.str,V0,(.sl Y2 (.own 2)),V0,V4,V0,V0,V0],[V0,V0],[V0,V0]],[true,true,true],[],[],5,3,0⟩
noncomputable def ql19 (X : Type) (n : Nat) : LoopI X:=mkLi 7 4 3 0 qh19 [(1,qe19_1)] [qe19_r] n fun m ks => F.zb.L9_dog_reader_first n (xe qe19_1 ks 1) (xr qe19_r ks) m
def qh20 : Shape:=⟨[(0,(.const (.ref 2 0))),(1,.str),(4,(.const (.ref 4 0))),(19,V12),(20,V0)],[[.str,V0,(.sl Y2 (.own 0)),V0,(.sl Y3 (.own 1)),V0],[V0,V0],[.str,V0,(.sl Y2 (.own 2)),V0,V4,V0,V0,V0],[V0,V0],[V0,V0]],[true,true,true],[],[],5,3,0⟩
def qe20_0 : Shape:=⟨[(0,(.const (.ref 2 0))),(4,(.const (.ref 4 0)))],[[.str,V0,(.sl Y2 (.own 0)),V0,(.sl Y3 (.own 1)),V0],[V0,V0],[.str,V0,(.sl Y2 (.own 2)),V0,V4,V0,V0,V0],[V0,V0],[V0,V0]],[true,true,true],[],[],5,3,0⟩
def qe20_r : Shape:=⟨[(4,(.const (.ref 4 0)))],[[.str,V0,(.sl Y2 (.own 0)),V0,(.sl Y3 (.own 1)),V0],[V0,V0],[.str,V0,(.sl Y2 (.own 2)),V0,V4,V0,V0,V0],[V0,V0],[V0,V0]],[true,true,true],[],[],5,3,0⟩
noncomputable def ql20 (X : Type) (n : Nat) : LoopI X:=mkLi 7 4 3 0 qh20 [(0,qe20_0)] [qe20_r] n fun m ks => F.zb.L2_dog_reader_more n (xe qe20_0 ks 0) (xr qe20_r ks) m
def qh21 : Shape:=⟨[(0,.str),(2,(.const (.ref 0 0))),(3,(.const (.ref 1 0))),(4,(.const (.ref 2 0))),(5,V9),(6,(.const (.imms 2 [(.fn 127 [(.ref 2 0)] []),(.fn 128 [(.ref 2 0)] [])]))),(7,(.const (.ref 3 0))),(26,V9),(27,V0),(28,V0)],[[.str,V0,(.sl Y2 (.own 0)),V0,(.sl Y3 (.own 1)),V0],[V0,V0],[.str,V0,(.sl Y2 (.own 2)),V0,V4,V0,V0,V0],[V0,V0]],[true,true,true],[],[],4,0,0⟩
def qe21_0 : Shape:=⟨[(0,.str),(2,(.const (.ref 0 0))),(3,(.const (.ref 1 0))),(4,(.const (.ref 2 0))),(5,V9),(6,(.const (.imms 2 [(.fn 127 [(.ref 2 0)] []),(.fn 128 [(.ref 2 0)] [])]))),(7,(.const (.ref 3 0)))],[[.str,V0,(.sl Y2 (.own 0)),V0,(.sl Y3 (.own 1)),V0],[V0,V0],[.str,V0,(.sl Y2 (.own 2)),V0,V4,V0,V0,V0],[V0,V0]],[true,true,true],[],[],4,0,0⟩
noncomputable def ql21 (X : Type) (n : Nat) : LoopI X:=mkLi 8 0 0 0 qh21 [(0,qe21_0)] [] n fun m ks => F.zb.L8 n (xe qe21_0 ks 0) m
noncomputable def cx60 (X : Type) (n : Nat) : Cx X:=mkCx tab.get [(60,Tryz.f60),(127,Tryz.f127),(128,Tryz.f128),(129,Tryz.f129),(182,Tryz.f182),(184,Tryz.f184),(185,Tryz.f185),(186,Tryz.f186)] [o68 n,o113 n,o114 n,o116 n,o119 n,o126 n,o173 n,o183 n,o188 n,o220 n] [(60,8,[ql21 X n]),(127,9,[ql19 X n]),(129,2,[ql20 X n])] [] [(60,20,[(1,2)]),(60,21,[(4,5)])] []
theorem qo19 (X : Type) (n : Nat) : LO (cx60 X n) 127 Tryz.f127 0 (ql19 X n):=lok
theorem qo20 (X : Type) (n : Nat) : LO (cx60 X n) 129 Tryz.f129 0 (ql20 X n):=lok
theorem qo21 (X : Type) (n : Nat) : LO (cx60 X n) 60 Tryz.f60 0 (ql21 X n):=lok
theorem zw2 (X : Type) (n : Nat) : CxOK Tryz.prog SW (cx60 X n):=mx (J (J Tryz.func60 (by decide)) (J (J Tryz.func127 (by decide)) (J (J Tryz.func128 (by decide)) (J (J Tryz.func129 (by decide)) (J (J Tryz.func182 (by decide)) (J (J Tryz.func184 (by decide)) (J (J Tryz.func185 (by decide)) (T1 (J Tryz.func186 (by decide)))))))))) (J (zb (ok68 n)) (J (zb (ok113 n)) (J (zb (ok114 n)) (J (zb (ok116 n)) (J (zb (ok119 n)) (J (zb (ok126 n)) (J (zb (ok173 n)) (J (zb (ok183 n)) (J (zb (ok188 n)) (T1 (zb (ok220 n)))))))))))) (J (okc (T1 (T1 (qo21 X n))) trivial) (J (okc (T1 (T1 (qo19 X n))) trivial) (J (okc trivial trivial) (J (okc (T1 (T1 (qo20 X n))) trivial) (J (okc trivial trivial) (J (okc trivial trivial) (J (okc trivial trivial) (T1 (okc trivial trivial))))))))) trivial
abbrev P60 : List SV:=[.str]
abbrev R60 : RV:=.many [V5,V2]
theorem ok60 (n : Nat) : FO 60 P60 R60 (F.zb n):=zf WOf.st (zw2 _ n) (d:=8) fun _ => by kernel_rfl
noncomputable def o60 (n : Nat):=oc 60 P60 R60 (F.zb n)
def qh22 : Shape:=⟨[(0,(.const (.yield 0))),(1,(.const (.ref 4 0))),(3,V0),(4,V0),(5,.bool)],[[.str,V0,(.sl Y2 (.own 0)),V0,(.sl Y3 (.own 1)),V0],[V0,V0],[.str,V0,(.sl Y2 (.own 2)),V0,(.sl Y3 (.own 3)),V0],[V0,V0],[.str]],[true,true,true,true],[.ready],[(0,62,4,[(4,(.const (.ref 2 0))),(5,(.const (.ref 3 0)))])],5,0,1⟩
def qe22_0 : Shape:=⟨[],[[.str,V0,(.sl Y2 (.own 0)),V0,(.sl Y3 (.own 1)),V0],[V0,V0],[.str,V0,(.sl Y2 (.own 2)),V0,(.sl Y3 (.own 3)),V0],[V0,V0],[.str]],[true,true,true,true],[.ready],[],5,0,1⟩
def qe22_r : Shape:=⟨[],[[.str,V0,(.sl Y2 (.own 0)),V0,(.sl Y3 (.own 1)),V0],[V0,V0],[.str,V0,(.sl Y2 (.own 2)),V0,(.sl Y3 (.own 3)),V0],[V0,V0],[.str]],[true,true,true,true],[.done (.ex 0)],[],5,0,1⟩
noncomputable def ql22 (X : Type) (n : Nat) : LoopI X:=mkLi 7 5 0 1 qh22 [(0,qe22_0)] [qe22_r] n fun m ks => F.zl.L2_graphite_cut_1 n (xe qe22_0 ks 0) (xr qe22_r ks) m
noncomputable def cx62 (X : Type) (n : Nat) : Cx X:=mkCx tab.get [(62,Tryz.f62),(130,Tryz.f130),(131,Tryz.f131),(187,Tryz.f187)] [o113 n,o114 n,o116 n,o188 n] [(187,2,[ql22 X n])] [(62,4,Tryz.f62,[4,5],0)] [(62,13,[(1,2)]),(62,14,[(1,2)])] []
theorem qo22 (X : Type) (n : Nat) : LO (cx62 X n) 187 Tryz.f187 0 (ql22 X n):=lok
theorem zw3 (X : Type) (n : Nat) : CxOK Tryz.prog SW (cx62 X n):=mx (J (J Tryz.func62 (by decide)) (J (J Tryz.func130 (by decide)) (J (J Tryz.func131 (by decide)) (T1 (J Tryz.func187 (by decide)))))) (J (zb (ok113 n)) (J (zb (ok114 n)) (J (zb (ok116 n)) (T1 (zb (ok188 n)))))) (J (okc trivial (T1 (rfo (cx:=cx62 X n) (g:=62) (i:=4) (lv:=[4,5]) (show _ = some (Tryz.f62.ntmps,_,rfNo Tryz.f62 0) by kernel_rfl)))) (J (okc trivial trivial) (J (okc trivial trivial) (T1 (okc (T1 (T1 (qo22 X n))) trivial))))) (T1 (J Tryz.func62 rfl))
abbrev P62 : List SV:=[.str]
abbrev R62 : RV:=.many [V5,V2]
theorem ok62 (n : Nat) : FO 62 P62 R62 (F.zl n):=zf WOf.st (zw3 _ n) (d:=8) fun _ => by kernel_rfl
noncomputable def o62 (n : Nat):=oc 62 P62 R62 (F.zl n)
noncomputable def cx15 (X : Type) (n : Nat) : Cx X:=mkCx tab.get [(15,Tryz.f15),(32,Tryz.f32)] [o58 n,o60 n,o62 n] [] [] [] []
theorem zw4 (X : Type) (n : Nat) : CxOK Tryz.prog SW (cx15 X n):=mx (J (J Tryz.func15 (by decide)) (T1 (J Tryz.func32 (by decide)))) (J (zb (ok58 n)) (J (zb (ok60 n)) (T1 (zb (ok62 n))))) (J (okc trivial trivial) (T1 (okc trivial trivial))) trivial
abbrev P15 : List SV:=[.str,V0]
abbrev R15 : RV:=.many [V5,V2]
theorem ok15 (n : Nat) : FO 15 P15 R15 (F.zbg n):=zf WOf.st (zw4 _ n) (d:=8) fun _ => by kernel_rfl
noncomputable def o15 (n : Nat):=oc 15 P15 R15 (F.zbg n)
noncomputable def cx133 (X : Type) (n : Nat) : Cx X:=mkCx tab.get [(133,Tryz.f133)] [] [] [] [] []
theorem zuc (X : Type) (n : Nat) : CxOK Tryz.prog SW (cx133 X n):=mx (T1 (J Tryz.func133 (by decide))) trivial (T1 (okc trivial trivial)) trivial
abbrev P133 : List SV:=[.str,.str]
abbrev R133 : RV:=.one .bool
theorem ok133 (n : Nat) : FO 133 P133 R133 (F.zap n):=zf WOf.st (zuc _ n) (d:=8) fun _ => by kernel_rfl
noncomputable def o133 (n : Nat):=oc 133 P133 R133 (F.zap n)
noncomputable def cx65 (X : Type) (n : Nat) : Cx X:=mkCx tab.get [(65,Tryz.f65)] [o133 n] [] [] [] []
theorem zw5 (X : Type) (n : Nat) : CxOK Tryz.prog SW (cx65 X n):=mx (T1 (J Tryz.func65 (by decide))) (T1 (zb (ok133 n))) (T1 (okc trivial trivial)) trivial
abbrev P65 : List SV:=[.str,.str]
abbrev R65 : RV:=.many [.str,.bool]
theorem ok65 (n : Nat) : FO 65 P65 R65 (F.zaq n):=zf WOf.st (zw5 _ n) (d:=8) fun _ => by kernel_rfl
noncomputable def o65 (n : Nat):=oc 65 P65 R65 (F.zaq n)
noncomputable def cx34 (X : Type) (n : Nat) : Cx X:=mkCx tab.get [(34,Tryz.f34)] [o65 n] [] [] [] []
theorem zw6 (X : Type) (n : Nat) : CxOK Tryz.prog SW (cx34 X n):=mx (T1 (J Tryz.func34 (by decide))) (T1 (zb (ok65 n))) (T1 (okc trivial trivial)) trivial
abbrev P34 : List SV:=[.str,.str]
abbrev R34 : RV:=.many [.str,.bool]
theorem ok34 (n : Nat) : FO 34 P34 R34 (F.zah n):=zf WOf.st (zw6 _ n) (d:=8) fun _ => by kernel_rfl
noncomputable def o34 (n : Nat):=oc 34 P34 R34 (F.zah n)
abbrev P132 : List SV:=[.str,V1]
abbrev R132 : RV:=.one V0
theorem ok132 (n : Nat) : FO 132 P132 R132 (O.indexB n):=zrj (enters Tryz.func132 (by kernel_rfl) (by decide)) Tryz.stringslite_IndexByte n
noncomputable def o132 (n : Nat):=oc 132 P132 R132 (O.indexB n)
noncomputable def cx64 (X : Type) (n : Nat) : Cx X:=mkCx tab.get [(64,Tryz.f64)] [o132 n] [] [] [] []
theorem zw7 (X : Type) (n : Nat) : CxOK Tryz.prog SW (cx64 X n):=mx (T1 (J Tryz.func64 (by decide))) (T1 (zb (ok132 n))) (T1 (okc trivial trivial)) trivial
abbrev P64 : List SV:=[.str,V1]
abbrev R64 : RV:=.one V0
theorem ok64 (n : Nat) : FO 64 P64 R64 (F.za7 n):=zf WOf.st (zw7 _ n) (d:=8) fun _ => by kernel_rfl
noncomputable def o64 (n : Nat):=oc 64 P64 R64 (F.za7 n)
def qh23 : Shape:=⟨[(0,(.const (.yield 0))),(1,(.const (.ref 7 0)))],[[V0],[(.sl Y6 (.own 0))],[V0,V0],[(.const (.fn 57 [] [])),(.const (.fn 58 [] []))],[(.const (.fn 57 [] [])),(.const (.fn 58 [] []))],[(.sl Y6 (.own 1))],[V0],[.str]],[true,true],[.ready],[(0,10,7,[(3,(.const (.ref 0 0))),(4,(.const (.ref 1 0))),(5,(.const (.ref 2 0))),(8,(.const (.ref 5 0))),(9,(.const (.ref 6 0)))])],8,0,1⟩
def qe23_0 : Shape:=⟨[],[[V0],[(.sl Y6 (.own 0))],[V0,V0],[(.const (.fn 57 [] [])),(.const (.fn 58 [] []))],[(.const (.fn 57 [] [])),(.const (.fn 58 [] []))],[(.sl Y6 (.own 1))],[V0],[.str]],[true,true],[.ready],[],8,0,1⟩
def qe23_r : Shape:=⟨[],[[V0],[(.sl Y6 (.own 0))],[V0,V0],[(.const (.fn 57 [] [])),(.const (.fn 58 [] []))],[(.const (.fn 57 [] [])),(.const (.fn 58 [] []))],[(.sl Y6 (.own 1))],[V0],[.str]],[true,true],[.done .ret],[],8,0,1⟩
noncomputable def ql23 (X : Type) (n : Nat) : LoopI X:=mkLi 7 8 0 1 qh23 [(0,qe23_0)] [qe23_r] n fun m ks => F.zm.L0_strings_Lines_1 n (xe qe23_0 ks 0) (xr qe23_r ks) m
def qh24 : Shape:=⟨[(0,(.const (.yield 0))),(1,(.const (.ref 7 0)))],[[V0],[(.sl Y6 (.own 0))],[V0,V0],[(.const (.fn 59 [] [])),(.const (.fn 60 [] []))],[(.const (.fn 59 [] [])),(.const (.fn 60 [] []))],[(.sl Y6 (.own 1))],[V0],[.str]],[true,true],[.ready],[(0,10,7,[(3,(.const (.ref 0 0))),(4,(.const (.ref 1 0))),(5,(.const (.ref 2 0))),(8,(.const (.ref 5 0))),(9,(.const (.ref 6 0)))])],8,0,1⟩
def qe24_0 : Shape:=⟨[],[[V0],[(.sl Y6 (.own 0))],[V0,V0],[(.const (.fn 59 [] [])),(.const (.fn 60 [] []))],[(.const (.fn 59 [] [])),(.const (.fn 60 [] []))],[(.sl Y6 (.own 1))],[V0],[.str]],[true,true],[.ready],[],8,0,1⟩
def qe24_r : Shape:=⟨[],[[V0],[(.sl Y6 (.own 0))],[V0,V0],[(.const (.fn 59 [] [])),(.const (.fn 60 [] []))],[(.const (.fn 59 [] [])),(.const (.fn 60 [] []))],[(.sl Y6 (.own 1))],[V0],[.str]],[true,true],[.done .ret],[],8,0,1⟩
noncomputable def ql24 (X : Type) (n : Nat) : LoopI X:=mkLi 7 8 0 1 qh24 [(0,qe24_0)] [qe24_r] n fun m ks => F.zm.L0_strings_Lines_1 n (xe qe24_0 ks 0) (xr qe24_r ks) m
def qh25 : Shape:=⟨[(0,(.const (.yield 0))),(1,(.const (.ref 7 0)))],[[V0],[(.sl Y6 (.own 0))],[V0,V0],[(.const (.fn 61 [] [])),(.const (.fn 62 [] []))],[(.const (.fn 61 [] [])),(.const (.fn 62 [] []))],[(.sl Y6 (.own 1))],[V0],[.str]],[true,true],[.ready],[(0,10,7,[(3,(.const (.ref 0 0))),(4,(.const (.ref 1 0))),(5,(.const (.ref 2 0))),(8,(.const (.ref 5 0))),(9,(.const (.ref 6 0)))])],8,0,1⟩
def qe25_0 : Shape:=⟨[],[[V0],[(.sl Y6 (.own 0))],[V0,V0],[(.const (.fn 61 [] [])),(.const (.fn 62 [] []))],[(.const (.fn 61 [] [])),(.const (.fn 62 [] []))],[(.sl Y6 (.own 1))],[V0],[.str]],[true,true],[.ready],[],8,0,1⟩
def qe25_r : Shape:=⟨[],[[V0],[(.sl Y6 (.own 0))],[V0,V0],[(.const (.fn 61 [] [])),(.const (.fn 62 [] []))],[(.const (.fn 61 [] [])),(.const (.fn 62 [] []))],[(.sl Y6 (.own 1))],[V0],[.str]],[true,true],[.done .ret],[],8,0,1⟩
noncomputable def ql25 (X : Type) (n : Nat) : LoopI X:=mkLi 7 8 0 1 qh25 [(0,qe25_0)] [qe25_r] n fun m ks => F.zm.L0_strings_Lines_1 n (xe qe25_0 ks 0) (xr qe25_r ks) m
noncomputable def cx10 (X : Type) (n : Nat) : Cx X:=mkCx tab.get [(10,Tryz.f10),(32,Tryz.f32),(33,Tryz.f33),(63,Tryz.f63)] [o15 n,o34 n,o64 n] [(63,0,[ql23 X n,ql24 X n,ql25 X n])] [(10,7,Tryz.f10,[3,4,5,8,9],0)] [(10,17,[(1,7),(2,7),(4,7)])] []
theorem qo23 (X : Type) (n : Nat) : LO (cx10 X n) 63 Tryz.f63 0 (ql23 X n):=lok
theorem qo24 (X : Type) (n : Nat) : LO (cx10 X n) 63 Tryz.f63 0 (ql24 X n):=lok
theorem qo25 (X : Type) (n : Nat) : LO (cx10 X n) 63 Tryz.f63 0 (ql25 X n):=lok
theorem zw8 (X : Type) (n : Nat) : CxOK Tryz.prog SW (cx10 X n):=mx (J (J Tryz.func10 (by decide)) (J (J Tryz.func32 (by decide)) (J (J Tryz.func33 (by decide)) (T1 (J Tryz.func63 (by decide)))))) (J (zb (ok15 n)) (J (zb (ok34 n)) (T1 (zb (ok64 n))))) (J (okc trivial (T1 (rfo (cx:=cx10 X n) (g:=10) (i:=7) (lv:=[3,4,5,8,9]) (show _ = some (Tryz.f10.ntmps,_,rfNo Tryz.f10 0) by kernel_rfl)))) (J (okc trivial trivial) (J (okc trivial trivial) (T1 (okc (T1 (J (qo23 X n) (J (qo24 X n) (T1 (qo25 X n))))) trivial))))) (T1 (J Tryz.func10 rfl))
abbrev P10 : List SV:=[V13,V0]
abbrev R10 : RV:=.many [V14,V2]
theorem ok10 (n : Nat) : FO 10 P10 R10 (F.zm n):=zf WOf.st (zw8 _ n) (d:=8) fun _ => by kernel_rfl
noncomputable def o10 (n : Nat):=oc 10 P10 R10 (F.zm n)
noncomputable def cx9 (X : Type) (n : Nat) : Cx X:=mkCx tab.get [(9,Tryz.f9)] [o10 n] [] [] [] [] [] [(22,.u8)]
theorem zyv (X : Type) (n : Nat) : CxOK Tryz.prog SW (cx9 X n):=mx (T1 (J Tryz.func9 (by decide))) (T1 (zb (ok10 n))) (T1 (okc trivial trivial)) trivial
abbrev P9 : List SV:=[]
abbrev R9 : RV:=.one .bool
theorem ok9 (n : Nat) : FO 9 P9 R9 (F.zat n):=zf WOf.st (zyv _ n) (d:=8) fun _ => by kernel_rfl
noncomputable def o9 (n : Nat):=oc 9 P9 R9 (F.zat n)
def qh57 : Shape:=⟨[(1,(.const (.ref 0 0))),(3,V0)],[[.str,V0,V3,V0,V4,V0]],[],[],[],1,0,0⟩
def qe57_0 : Shape:=⟨[(1,(.const (.ref 0 0)))],[[.str,V0,V3,V0,V4,V0]],[],[],[],1,0,0⟩
def qe57_r : Shape:=⟨[(2,.bool)],[[.str,V0,V3,V0,V4,V0]],[],[],[],1,0,0⟩
noncomputable def ql57 (X : Type) (n : Nat) : LoopI X:=mkLi 8 0 0 0 qh57 [(0,qe57_0)] [qe57_r] n fun m ks => F.zu.L2 n (xe qe57_0 ks 0) (xr qe57_r ks) m
noncomputable def cx13 (X : Type) (n : Nat) : Cx X:=mkCx tab.get [(13,Tryz.f13)] [] [(13,2,[ql57 X n])] [] [] []
theorem qo57 (X : Type) (n : Nat) : LO (cx13 X n) 13 Tryz.f13 0 (ql57 X n):=lok
theorem zw9 (X : Type) (n : Nat) : CxOK Tryz.prog SW (cx13 X n):=mx (T1 (J Tryz.func13 (by decide))) trivial (T1 (okc (T1 (T1 (qo57 X n))) trivial)) trivial
abbrev P13 : List SV:=[V5]
abbrev R13 : RV:=.one .bool
theorem ok13 (n : Nat) : FO 13 P13 R13 (F.zu n):=zf WOf.st (zw9 _ n) (d:=8) fun _ => by kernel_rfl
noncomputable def o13 (n : Nat):=oc 13 P13 R13 (F.zu n)
noncomputable def cx97 (X : Type) (n : Nat) : Cx X:=mkCx tab.get [(97,Tryz.f97)] [o114 n] [] [] [] []
theorem zxa (X : Type) (n : Nat) : CxOK Tryz.prog SW (cx97 X n):=mx (T1 (J Tryz.func97 (by decide))) (T1 (zb (ok114 n))) (T1 (okc trivial trivial)) trivial
abbrev P97 : List SV:=[V5]
abbrev R97 : RV:=.one .bool
theorem ok97 (n : Nat) : FO 97 P97 R97 (F.zaw n):=zf WOf.st (zxa _ n) (d:=8) fun _ => by kernel_rfl
noncomputable def o97 (n : Nat):=oc 97 P97 R97 (F.zaw n)
noncomputable def cx156 (X : Type) (n : Nat) : Cx X:=mkCx tab.get [(156,Tryz.f156)] [] [] [] [] []
theorem zud (X : Type) (n : Nat) : CxOK Tryz.prog SW (cx156 X n):=mx (T1 (J Tryz.func156 (by decide))) trivial (T1 (okc trivial trivial)) trivial
abbrev P156 : List SV:=[V0,V0,V0]
abbrev R156 : RV:=.one .bool
theorem ok156 (n : Nat) : FO 156 P156 R156 (F.zar n):=zf WOf.st (zud _ n) (d:=8) fun _ => by kernel_rfl
noncomputable def o156 (n : Nat):=oc 156 P156 R156 (F.zar n)
noncomputable def cx98 (X : Type) (n : Nat) : Cx X:=mkCx tab.get [(98,Tryz.f98)] [o156 n] [] [] [] []
theorem zxb (X : Type) (n : Nat) : CxOK Tryz.prog SW (cx98 X n):=mx (T1 (J Tryz.func98 (by decide))) (T1 (zb (ok156 n))) (T1 (okc trivial trivial)) trivial
abbrev P98 : List SV:=[V5]
abbrev R98 : RV:=.one .bool
theorem ok98 (n : Nat) : FO 98 P98 R98 (F.zax n):=zf WOf.st (zxb _ n) (d:=8) fun _ => by kernel_rfl
noncomputable def o98 (n : Nat):=oc 98 P98 R98 (F.zax n)
noncomputable def cx159 (X : Type) (n : Nat) : Cx X:=mkCx tab.get [(159,Tryz.f159)] [o67 n] [] [] [] []
theorem zue (X : Type) (n : Nat) : CxOK Tryz.prog SW (cx159 X n):=mx (T1 (J Tryz.func159 (by decide))) (T1 (zb (ok67 n))) (T1 (okc trivial trivial)) trivial
abbrev P159 : List SV:=[V7]
abbrev R159 : RV:=.one V0
theorem ok159 (n : Nat) : FO 159 P159 R159 (F.zbf n):=zf WOf.st (zue _ n) (d:=8) fun _ => by kernel_rfl
noncomputable def o159 (n : Nat):=oc 159 P159 R159 (F.zbf n)
noncomputable def cx158 (X : Type) (n : Nat) : Cx X:=mkCx tab.get [(158,Tryz.f158)] [o159 n] [] [] [] []
theorem zuf (X : Type) (n : Nat) : CxOK Tryz.prog SW (cx158 X n):=mx (T1 (J Tryz.func158 (by decide))) (T1 (zb (ok159 n))) (T1 (okc trivial trivial)) trivial
abbrev P158 : List SV:=[V7]
abbrev R158 : RV:=.one .bool
theorem ok158 (n : Nat) : FO 158 P158 R158 (F.za3 n):=zf WOf.st (zuf _ n) (d:=8) fun _ => by kernel_rfl
noncomputable def o158 (n : Nat):=oc 158 P158 R158 (F.za3 n)
def qh58 : Shape:=⟨[(0,V3),(1,(.const (.fn 158 [] []))),(7,V0),(8,V0)],[[.str,V0,V3,V0,V4,V0]],[],[],[],1,0,0⟩
def qe58_0 : Shape:=⟨[],[[.str,V0,V3,V0,V4,V0]],[],[],[],1,0,0⟩
def qe58_r : Shape:=⟨[(4,V0)],[[.str,V0,V3,V0,V4,V0]],[],[],[],1,0,0⟩
noncomputable def ql58 (X : Type) (n : Nat) : LoopI X:=mkLi 6 1 0 0 qh58 [(0,qe58_0)] [qe58_r] n fun m ks => F.zj.L2_slices_IndexFunc_api_Dec_api_Dec n (xe qe58_0 ks 0) (xr qe58_r ks) m
noncomputable def cx99 (X : Type) (n : Nat) : Cx X:=mkCx tab.get [(99,Tryz.f99),(157,Tryz.f157),(196,Tryz.f196)] [o156 n,o158 n] [(196,2,[ql58 X n])] [] [] []
theorem qo58 (X : Type) (n : Nat) : LO (cx99 X n) 196 Tryz.f196 0 (ql58 X n):=lok
theorem zxc (X : Type) (n : Nat) : CxOK Tryz.prog SW (cx99 X n):=mx (J (J Tryz.func99 (by decide)) (J (J Tryz.func157 (by decide)) (T1 (J Tryz.func196 (by decide))))) (J (zb (ok156 n)) (T1 (zb (ok158 n)))) (J (okc trivial trivial) (J (okc trivial trivial) (T1 (okc (T1 (T1 (qo58 X n))) trivial)))) trivial
abbrev P99 : List SV:=[V5]
abbrev R99 : RV:=.one .bool
theorem ok99 (n : Nat) : FO 99 P99 R99 (F.zj n):=zf WOf.st (zxc _ n) (d:=8) fun _ => by kernel_rfl
noncomputable def o99 (n : Nat):=oc 99 P99 R99 (F.zj n)
noncomputable def cx100 (X : Type) (n : Nat) : Cx X:=mkCx tab.get [(100,Tryz.f100)] [o156 n] [] [] [] []
theorem zug (X : Type) (n : Nat) : CxOK Tryz.prog SW (cx100 X n):=mx (T1 (J Tryz.func100 (by decide))) (T1 (zb (ok156 n))) (T1 (okc trivial trivial)) trivial
abbrev P100 : List SV:=[V5]
abbrev R100 : RV:=.one .bool
theorem ok100 (n : Nat) : FO 100 P100 R100 (F.zay n):=zf WOf.st (zug _ n) (d:=8) fun _ => by kernel_rfl
noncomputable def o100 (n : Nat):=oc 100 P100 R100 (F.zay n)
noncomputable def cx161 (X : Type) (n : Nat) : Cx X:=mkCx tab.get [(161,Tryz.f161)] [o162 n] [] [] [] []
theorem zuh (X : Type) (n : Nat) : CxOK Tryz.prog SW (cx161 X n):=mx (T1 (J Tryz.func161 (by decide))) (T1 (zb (ok162 n))) (T1 (okc trivial trivial)) trivial
abbrev P161 : List SV:=[V11]
abbrev R161 : RV:=.one .bool
theorem ok161 (n : Nat) : FO 161 P161 R161 (F.za6 n):=zf WOf.st (zuh _ n) (d:=8) fun _ => by kernel_rfl
noncomputable def o161 (n : Nat):=oc 161 P161 R161 (F.za6 n)
def qh59 : Shape:=⟨[(0,V4),(1,(.const (.fn 161 [] []))),(7,V0),(8,V0)],[[.str,V0,V3,V0,V4,V0]],[],[],[],1,0,0⟩
def qe59_0 : Shape:=⟨[],[[.str,V0,V3,V0,V4,V0]],[],[],[],1,0,0⟩
def qe59_r : Shape:=⟨[(4,V0)],[[.str,V0,V3,V0,V4,V0]],[],[],[],1,0,0⟩
noncomputable def ql59 (X : Type) (n : Nat) : LoopI X:=mkLi 6 1 0 0 qh59 [(0,qe59_0)] [qe59_r] n fun m ks => F.zn.L2_slices_IndexFunc_api_Tag_api_Tag n (xe qe59_0 ks 0) (xr qe59_r ks) m
noncomputable def cx101 (X : Type) (n : Nat) : Cx X:=mkCx tab.get [(101,Tryz.f101),(160,Tryz.f160),(197,Tryz.f197)] [o161 n] [(197,2,[ql59 X n])] [] [] []
theorem qo59 (X : Type) (n : Nat) : LO (cx101 X n) 197 Tryz.f197 0 (ql59 X n):=lok
theorem zui (X : Type) (n : Nat) : CxOK Tryz.prog SW (cx101 X n):=mx (J (J Tryz.func101 (by decide)) (J (J Tryz.func160 (by decide)) (T1 (J Tryz.func197 (by decide))))) (T1 (zb (ok161 n))) (J (okc trivial trivial) (J (okc trivial trivial) (T1 (okc (T1 (T1 (qo59 X n))) trivial)))) trivial
abbrev P101 : List SV:=[V5]
abbrev R101 : RV:=.one .bool
theorem ok101 (n : Nat) : FO 101 P101 R101 (F.zn n):=zf WOf.st (zui _ n) (d:=8) fun _ => by kernel_rfl
noncomputable def o101 (n : Nat):=oc 101 P101 R101 (F.zn n)
noncomputable def cx102 (X : Type) (n : Nat) : Cx X:=mkCx tab.get [(102,Tryz.f102)] [o156 n] [] [] [] []
theorem zuj (X : Type) (n : Nat) : CxOK Tryz.prog SW (cx102 X n):=mx (T1 (J Tryz.func102 (by decide))) (T1 (zb (ok156 n))) (T1 (okc trivial trivial)) trivial
abbrev P102 : List SV:=[V5]
abbrev R102 : RV:=.one .bool
theorem ok102 (n : Nat) : FO 102 P102 R102 (F.zaz n):=zf WOf.st (zuj _ n) (d:=8) fun _ => by kernel_rfl
noncomputable def o102 (n : Nat):=oc 102 P102 R102 (F.zaz n)
def qh60 : Shape:=⟨[(26,V16),(27,V0)],[[.str,V0,V3,V0,V4,V0],[.str,V0,V3,V0,V4,V0]],[],[],[],2,0,0⟩
def qe60_0 : Shape:=⟨[],[[.str,V0,V3,V0,V4,V0],[.str,V0,V3,V0,V4,V0]],[],[],[],2,0,0⟩
def qe60_r : Shape:=⟨[(2,V0)],[[.str,V0,V3,V0,V4,V0],[.str,V0,V3,V0,V4,V0]],[],[],[],2,0,0⟩
noncomputable def ql60 (X : Type) (n : Nat) : LoopI X:=mkLi 8 0 0 0 qh60 [(0,qe60_0)] [qe60_r] n fun m ks => F.zo.L3 n (xe qe60_0 ks 0) (xr qe60_r ks) m
noncomputable def cx53 (X : Type) (n : Nat) : Cx X:=mkCx tab.get [(53,Tryz.f53)] [o97 n,o98 n,o99 n,o100 n,o101 n,o102 n] [(53,3,[ql60 X n])] [] [] []
theorem qo60 (X : Type) (n : Nat) : LO (cx53 X n) 53 Tryz.f53 0 (ql60 X n):=lok
theorem zxd (X : Type) (n : Nat) : CxOK Tryz.prog SW (cx53 X n):=mx (T1 (J Tryz.func53 (by decide))) (J (zb (ok97 n)) (J (zb (ok98 n)) (J (zb (ok99 n)) (J (zb (ok100 n)) (J (zb (ok101 n)) (T1 (zb (ok102 n)))))))) (T1 (okc (T1 (T1 (qo60 X n))) trivial)) trivial
abbrev P53 : List SV:=[V5]
abbrev R53 : RV:=.one V0
theorem ok53 (n : Nat) : FO 53 P53 R53 (F.zo n):=zf WOf.st (zxd _ n) (d:=8) fun _ => by kernel_rfl
noncomputable def o53 (n : Nat):=oc 53 P53 R53 (F.zo n)
def qh61 : Shape:=⟨[(1,(.const (.ref 0 0))),(2,(.const (.ref 1 0))),(4,(.ms 3 Y2)),(13,(.ms 3 Y2)),(14,V0),(15,V0)],[[.str,V0,V3,V0,V4,V0],[.str,V0,(.sl Y2 (.own 0)),V0,(.sl Y3 (.own 1)),V0],[(.row Y2)],[(.row Y2)]],[true,true],[],[],4,0,0⟩
def qe61_0 : Shape:=⟨[(1,(.const (.ref 0 0))),(2,(.const (.ref 1 0))),(4,(.ms 3 Y2))],[[.str,V0,V3,V0,V4,V0],[.str,V0,(.sl Y2 (.own 0)),V0,(.sl Y3 (.own 1)),V0],[(.row Y2)],[(.row Y2)]],[true,true],[],[],4,0,0⟩
noncomputable def ql61 (X : Type) (n : Nat) : LoopI X:=mkLi 8 0 0 0 qh61 [(0,qe61_0)] [] n fun m ks => F.zh.L3 n (xe qe61_0 ks 0) m
noncomputable def cx35 (X : Type) (n : Nat) : Cx X:=mkCx tab.get [(35,Tryz.f35),(66,Tryz.f66)] [o53 n,o67 n,o68 n] [(35,3,[ql61 X n])] [] [] [] [] [(33,Y2)] [] none [66]
theorem qo61 (X : Type) (n : Nat) : LO (cx35 X n) 35 Tryz.f35 0 (ql61 X n):=lok
theorem zxe (X : Type) (n : Nat) : CxOK Tryz.prog SW (cx35 X n):=mx (J (J Tryz.func35 (by decide)) (T1 (J Tryz.func66 (by decide)))) (J (zb (ok53 n)) (J (zb (ok67 n)) (T1 (zb (ok68 n))))) (J (okc (T1 (T1 (qo61 X n))) trivial) (T1 (okc trivial trivial))) trivial
abbrev P35 : List SV:=[V5]
abbrev R35 : RV:=.many [V5,V0]
theorem ok35 (n : Nat) : FO 35 P35 R35 (F.zh n):=zf WOf.st (zxe _ n) (d:=8) fun _ => by kernel_rfl
noncomputable def o35 (n : Nat):=oc 35 P35 R35 (F.zh n)
noncomputable def cx163 (X : Type) (n : Nat) : Cx X:=mkCx tab.get [(163,Tryz.f163)] [] [] [] [] []
theorem zuk (X : Type) (n : Nat) : CxOK Tryz.prog SW (cx163 X n):=mx (T1 (J Tryz.func163 (by decide))) trivial (T1 (okc trivial trivial)) trivial
abbrev P163 : List SV:=[V5]
abbrev R163 : RV:=.one .bool
theorem ok163 (n : Nat) : FO 163 P163 R163 (F.zas n):=zf WOf.st (zuk _ n) (d:=8) fun _ => by kernel_rfl
noncomputable def o163 (n : Nat):=oc 163 P163 R163 (F.zas n)
noncomputable def cx104 (X : Type) (n : Nat) : Cx X:=mkCx tab.get [(104,Tryz.f104)] [o163 n] [] [] [] []
theorem zul (X : Type) (n : Nat) : CxOK Tryz.prog SW (cx104 X n):=mx (T1 (J Tryz.func104 (by decide))) (T1 (zb (ok163 n))) (T1 (okc trivial trivial)) trivial
abbrev P104 : List SV:=[V5]
abbrev R104 : RV:=.one .bool
theorem ok104 (n : Nat) : FO 104 P104 R104 (F.zak n):=zf WOf.st (zul _ n) (d:=8) fun _ => by kernel_rfl
noncomputable def o104 (n : Nat):=oc 104 P104 R104 (F.zak n)
noncomputable def cx105 (X : Type) (n : Nat) : Cx X:=mkCx tab.get [(105,Tryz.f105)] [] [] [] [] []
theorem zum (X : Type) (n : Nat) : CxOK Tryz.prog SW (cx105 X n):=mx (T1 (J Tryz.func105 (by decide))) trivial (T1 (okc trivial trivial)) trivial
abbrev P105 : List SV:=[V5]
abbrev R105 : RV:=.one .bool
theorem ok105 (n : Nat) : FO 105 P105 R105 (F.za1 n):=zf WOf.st (zum _ n) (d:=8) fun _ => by kernel_rfl
noncomputable def o105 (n : Nat):=oc 105 P105 R105 (F.za1 n)
noncomputable def cx106 (X : Type) (n : Nat) : Cx X:=mkCx tab.get [(106,Tryz.f106)] [o163 n] [] [] [] []
theorem zun (X : Type) (n : Nat) : CxOK Tryz.prog SW (cx106 X n):=mx (T1 (J Tryz.func106 (by decide))) (T1 (zb (ok163 n))) (T1 (okc trivial trivial)) trivial
abbrev P106 : List SV:=[V5]
abbrev R106 : RV:=.one .bool
theorem ok106 (n : Nat) : FO 106 P106 R106 (F.zaf n):=zf WOf.st (zun _ n) (d:=8) fun _ => by kernel_rfl
noncomputable def o106 (n : Nat):=oc 106 P106 R106 (F.zaf n)
noncomputable def cx36 (X : Type) (n : Nat) : Cx X:=mkCx tab.get [(36,Tryz.f36)] [o53 n,o104 n,o105 n,o106 n] [] [] [] [] [] [] [(55,.fmts [(1,104),(2,105),(3,106),(4,105)])] none []
theorem zxf (X : Type) (n : Nat) : CxOK Tryz.prog SW (cx36 X n):=mx (T1 (J Tryz.func36 (by decide))) (J (zb (ok53 n)) (J (zb (ok104 n)) (J (zb (ok105 n)) (T1 (zb (ok106 n)))))) (T1 (okc trivial trivial)) trivial (T1 (zog.mono (fun _ _ => trivial)))
abbrev P36 : List SV:=[V5,V0]
abbrev R36 : RV:=.one V0
theorem ok36 (n : Nat) : FO 36 P36 R36 (F.zal n):=zf WOf.st (zxf _ n) (d:=8) fun _ => by kernel_rfl
noncomputable def o36 (n : Nat):=oc 36 P36 R36 (F.zal n)
abbrev P166 : List SV:=[V6,V0]
abbrev R166 : RV:=.one .str
theorem ok166 (n : Nat) : FO 166 P166 R166 (O.futoa n):=zth (enters Tryz.func166 (by kernel_rfl) (by decide)) (fun k hk w hw => (Tryz.strconv_FormatUint_10 k hk w (swTab hw)).mono fun e w' ⟨a,q,os,b⟩ => ⟨a,b ▸ zho q os⟩) n
noncomputable def o166 (n : Nat):=oc 166 P166 R166 (O.futoa n)
abbrev P167 : List SV:=[.str,V0]
abbrev R167 : RV:=.one .str
theorem ok167 (n : Nat) : FO 167 P167 R167 (O.repeat' n):=zrg (enters Tryz.func167 (by kernel_rfl) (by decide)) Tryz.strings_Repeat n
noncomputable def o167 (n : Nat):=oc 167 P167 R167 (O.repeat' n)
noncomputable def cx110 (X : Type) (n : Nat) : Cx X:=mkCx tab.get [(110,Tryz.f110)] [o159 n,o166 n,o167 n] [] [] [] []
theorem zuo (X : Type) (n : Nat) : CxOK Tryz.prog SW (cx110 X n):=mx (T1 (J Tryz.func110 (by decide))) (J (zb (ok159 n)) (J (zb (ok166 n)) (T1 (zb (ok167 n))))) (T1 (okc trivial trivial)) trivial
abbrev P110 : List SV:=[V7]
abbrev R110 : RV:=.many [.str,V0]
theorem ok110 (n : Nat) : FO 110 P110 R110 (F.zbb n):=zf WOf.st (zuo _ n) (d:=8) fun _ => by kernel_rfl
noncomputable def o110 (n : Nat):=oc 110 P110 R110 (F.zbb n)
abbrev P168 : List SV:=[V0]
abbrev R168 : RV:=.one .str
theorem ok168 (n : Nat) : FO 168 P168 R168 (O.itoa n):=zwt (enters Tryz.func168 (by kernel_rfl) (by decide)) (fun k h0 h1 w hw => (Tryz.strconv_Itoa k h0 h1 w (swTab hw)).mono fun e w' ⟨a,q,os,b⟩ => ⟨a,b ▸ zho q os⟩) n
noncomputable def o168 (n : Nat):=oc 168 P168 R168 (O.itoa n)
noncomputable def cx111 (X : Type) (n : Nat) : Cx X:=mkCx tab.get [(111,Tryz.f111)] [o168 n,o169 n] [] [] [] []
theorem zup (X : Type) (n : Nat) : CxOK Tryz.prog SW (cx111 X n):=mx (T1 (J Tryz.func111 (by decide))) (J (zb (ok168 n)) (T1 (zb (ok169 n)))) (T1 (okc trivial trivial)) trivial
abbrev P111 : List SV:=[V0]
abbrev R111 : RV:=.many [.str,V0]
theorem ok111 (n : Nat) : FO 111 P111 R111 (F.za8 n):=zf WOf.st (zup _ n) (d:=8) fun _ => by kernel_rfl
noncomputable def o111 (n : Nat):=oc 111 P111 R111 (F.za8 n)
noncomputable def cx57 (X : Type) (n : Nat) : Cx X:=mkCx tab.get [(57,Tryz.f57)] [o36 n,o109 n,o110 n,o111 n] [] [] [] []
theorem zxg (X : Type) (n : Nat) : CxOK Tryz.prog SW (cx57 X n):=mx (T1 (J Tryz.func57 (by decide))) (J (zb (ok36 n)) (J (zb (ok109 n)) (J (zb (ok110 n)) (T1 (zb (ok111 n)))))) (T1 (okc trivial trivial)) trivial
abbrev P57 : List SV:=[V5]
abbrev R57 : RV:=.many [.str,V0]
theorem ok57 (n : Nat) : FO 57 P57 R57 (F.zbd n):=zf WOf.st (zxg _ n) (d:=8) fun _ => by kernel_rfl
noncomputable def o57 (n : Nat):=oc 57 P57 R57 (F.zbd n)
noncomputable def cx122 (X : Type) (n : Nat) : Cx X:=mkCx tab.get [(122,Tryz.f122)] [o179 n] [] [] [] []
theorem zuq (X : Type) (n : Nat) : CxOK Tryz.prog SW (cx122 X n):=mx (T1 (J Tryz.func122 (by decide))) (T1 (zb (ok179 n))) (T1 (okc trivial trivial)) trivial
abbrev P122 : List SV:=[V0]
abbrev R122 : RV:=.many [.str,V0]
theorem ok122 (n : Nat) : FO 122 P122 R122 (F.zbl n):=zf WOf.st (zuq _ n) (d:=8) fun _ => by kernel_rfl
noncomputable def o122 (n : Nat):=oc 122 P122 R122 (F.zbl n)
abbrev P180 : List SV:=[V9,.str]
abbrev R180 : RV:=.one .str
theorem ok180 (n : Nat) : FO 180 P180 R180 (O.join n):=zws (enters Tryz.func180 (by kernel_rfl) (by decide)) Tryz.strings_Join_none Tryz.strings_Join n
noncomputable def o180 (n : Nat):=oc 180 P180 R180 (O.join n)
def qh62 : Shape:=⟨[(5,(.sl .str (.own 0))),(10,V4),(11,V0),(12,V0)],[],[true],[],[],0,0,0⟩
def qe62_0 : Shape:=⟨[(5,(.sl .str (.own 0)))],[],[true],[],[],0,0,0⟩
def qe62_r : Shape:=⟨[(2,.str),(3,V0),(4,V0)],[],[],[],[],0,0,0⟩
noncomputable def ql62 (X : Type) (n : Nat) : LoopI X:=mkLi 8 0 0 0 qh62 [(0,qe62_0)] [qe62_r] n fun m ks => F.zam.L3 n (xe qe62_0 ks 0) (xr qe62_r ks) m
noncomputable def cx123 (X : Type) (n : Nat) : Cx X:=mkCx tab.get [(123,Tryz.f123)] [o162 n,o180 n] [(123,3,[ql62 X n])] [] [] []
theorem qo62 (X : Type) (n : Nat) : LO (cx123 X n) 123 Tryz.f123 0 (ql62 X n):=lok
theorem zur (X : Type) (n : Nat) : CxOK Tryz.prog SW (cx123 X n):=mx (T1 (J Tryz.func123 (by decide))) (J (zb (ok162 n)) (T1 (zb (ok180 n)))) (T1 (okc (T1 (T1 (qo62 X n))) trivial)) trivial
abbrev P123 : List SV:=[V4]
abbrev R123 : RV:=.many [.str,V0,V0]
theorem ok123 (n : Nat) : FO 123 P123 R123 (F.zam n):=zf WOf.st (zur _ n) (d:=8) fun _ => by kernel_rfl
noncomputable def o123 (n : Nat):=oc 123 P123 R123 (F.zam n)
noncomputable def cx124 (X : Type) (n : Nat) : Cx X:=mkCx tab.get [(124,Tryz.f124)] [o168 n] [] [] [] []
theorem zus (X : Type) (n : Nat) : CxOK Tryz.prog SW (cx124 X n):=mx (T1 (J Tryz.func124 (by decide))) (T1 (zb (ok168 n))) (T1 (okc trivial trivial)) trivial
abbrev P124 : List SV:=[V0]
abbrev R124 : RV:=.many [.str,V0]
theorem ok124 (n : Nat) : FO 124 P124 R124 (F.zbh n):=zf WOf.st (zus _ n) (d:=8) fun _ => by kernel_rfl
noncomputable def o124 (n : Nat):=oc 124 P124 R124 (F.zbh n)
def qh63 : Shape:=⟨[(1,(.const (.ref 0 0))),(5,(.const (.ref 2 0))),(6,(.const (.ref 3 0))),(7,(.const (.fn 120 [] [(.ref 3 0),(.ref 2 0)]))),(34,V3),(35,V0),(36,V0)],[[.str,V0,V3,V0,V4,V0],[(.row (.u8t 5))],[(.const (.bcell 2 148)),(.ms 1 (.u8t 5))],[V0]],[],[],[],4,0,0⟩
def qe63_0 : Shape:=⟨[(1,(.const (.ref 0 0))),(5,(.const (.ref 2 0))),(6,(.const (.ref 3 0))),(7,(.const (.fn 120 [] [(.ref 3 0),(.ref 2 0)])))],[[.str,V0,V3,V0,V4,V0],[(.row (.u8t 5))],[(.const (.bcell 2 148)),(.ms 1 (.u8t 5))],[V0]],[],[],[],4,0,0⟩
noncomputable def ql63 (X : Type) (n : Nat) : LoopI X:=mkLi 8 0 0 0 qh63 [(0,qe63_0)] [] n fun m ks => F.zg.L9 n (xe qe63_0 ks 0) m
def qh64 : Shape:=⟨[(5,(.const (.ref 2 0))),(6,(.const (.ref 3 0)))],[[.str,V0,V3,V0,V4,V0],[(.row (.u8t 5))],[(.const (.bcell 2 148)),(.ms 1 (.u8t 5))],[V0]],[],[],[],4,0,0⟩
def qe64_r : Shape:=⟨[(2,.str),(3,V0)],[],[],[],[],0,0,0⟩
noncomputable def ql64 (X : Type) (n : Nat) : CutI X:=mkCi 8 0 0 0 qh64 [] [] [qe64_r] fun ks => F.zg.C25 n (xr qe64_r ks)
def qh65 : Shape:=⟨[(1,(.const (.ref 0 0))),(5,(.const (.ref 2 0))),(6,(.const (.ref 3 0))),(7,(.const (.fn 120 [] [(.ref 3 0),(.ref 2 0)])))],[[.str,V0,V3,V0,V4,V0],[(.row (.u8t 5))],[(.const (.bcell 2 148)),(.ms 1 (.u8t 5))],[V0]],[],[],[],4,0,0⟩
def qe65_r : Shape:=⟨[(2,.str),(3,V0)],[],[],[],[],0,0,0⟩
noncomputable def ql65 (X : Type) (n : Nat) : CutI X:=mkCi 8 0 0 0 qh65 [] [] [qe65_r] fun ks => F.zg.C22 n (xr qe65_r ks)
def qh66 : Shape:=⟨[(1,(.const (.ref 0 0))),(5,(.const (.ref 2 0))),(6,(.const (.ref 3 0))),(7,(.const (.fn 120 [] [(.ref 3 0),(.ref 2 0)])))],[[.str,V0,V3,V0,V4,V0],[(.row (.u8t 5))],[(.const (.bcell 2 148)),(.ms 1 (.u8t 5))],[V0]],[],[],[],4,0,0⟩
def qe66_r : Shape:=⟨[(2,.str),(3,V0)],[],[],[],[],0,0,0⟩
noncomputable def ql66 (X : Type) (n : Nat) : CutI X:=mkCi 8 0 0 0 qh66 [] [] [qe66_r] fun ks => F.zg.C19 n (xr qe66_r ks)
def qh67 : Shape:=⟨[(1,(.const (.ref 0 0))),(5,(.const (.ref 2 0))),(6,(.const (.ref 3 0))),(7,(.const (.fn 120 [] [(.ref 3 0),(.ref 2 0)])))],[[.str,V0,V3,V0,V4,V0],[(.row (.u8t 5))],[(.const (.bcell 2 148)),(.ms 1 (.u8t 5))],[V0]],[],[],[],4,0,0⟩
def qe67_r : Shape:=⟨[(2,.str),(3,V0)],[],[],[],[],0,0,0⟩
noncomputable def ql67 (X : Type) (n : Nat) : CutI X:=mkCi 8 0 0 0 qh67 [] [] [qe67_r] fun ks => F.zg.C16 n (xr qe67_r ks)
noncomputable def cx59 (X : Type) (n : Nat) : Cx X:=mkCx tab.get [(59,Tryz.f59),(120,Tryz.f120),(121,Tryz.f121)] [o35 n,o110 n,o111 n,o122 n,o123 n,o124 n] [(59,9,[ql63 X n])] [] [] [] [(59,16,[ql67 X n]),(59,19,[ql66 X n]),(59,22,[ql65 X n]),(59,25,[ql64 X n])] [] [(125,.bstring 148 5),(178,.bcheck 148)] (some (148,5)) []
theorem qo64 (X : Type) (n : Nat) : CO (cx59 X n) 59 Tryz.f59 24 (ql64 X n):=fun _ _ => by kernel_rfl
theorem qo65 (X : Type) (n : Nat) : CO (cx59 X n) 59 Tryz.f59 21 (ql65 X n):=fun _ _ => by kernel_rfl
theorem qo66 (X : Type) (n : Nat) : CO (cx59 X n) 59 Tryz.f59 18 (ql66 X n):=fun _ _ => by kernel_rfl
theorem qo67 (X : Type) (n : Nat) : CO (cx59 X n) 59 Tryz.f59 17 (ql67 X n):=fun _ _ => by kernel_rfl
theorem qo63 (X : Type) (n : Nat) : LO (cx59 X n) 59 Tryz.f59 0 (ql63 X n):=lok
theorem zxh (X : Type) (n : Nat) : CxOK Tryz.prog SW (cx59 X n):=mx (J (J Tryz.func59 (by decide)) (J (J Tryz.func120 (by decide)) (T1 (J Tryz.func121 (by decide))))) (J (zb (ok35 n)) (J (zb (ok110 n)) (J (zb (ok111 n)) (J (zb (ok122 n)) (J (zb (ok123 n)) (T1 (zb (ok124 n)))))))) (J (okk (J trivial (J trivial (J trivial (J trivial (J trivial (J trivial (J trivial (J trivial (J trivial (J trivial (J trivial (J trivial (J trivial (J trivial (J trivial (J trivial (J trivial (J (T1 (qo67 X n)) (J (T1 (qo66 X n)) (J trivial (J trivial (J (T1 (qo65 X n)) (J trivial (J trivial (J (T1 (qo64 X n)) (J trivial (J trivial (J trivial (J trivial (J trivial (T1 trivial))))))))))))))))))))))))))))))) (T1 (T1 (qo63 X n))) trivial) (J (okc trivial trivial) (T1 (okc trivial trivial)))) trivial (J (zpf.mono (fun _ _ => trivial)) (T1 (zln.mono (fun _ _ => trivial))))
abbrev P59 : List SV:=[V5]
abbrev R59 : RV:=.many [.str,V0]
theorem ok59 (n : Nat) : FO 59 P59 R59 (F.zg n):=zf WOf.st (zxh _ n) (d:=8) fun _ => by kernel_rfl
noncomputable def o59 (n : Nat):=oc 59 P59 R59 (F.zg n)
noncomputable def cx61 (X : Type) (n : Nat) : Cx X:=mkCx tab.get [(61,Tryz.f61)] [o36 n,o110 n,o124 n] [] [] [] []
theorem zxi (X : Type) (n : Nat) : CxOK Tryz.prog SW (cx61 X n):=mx (T1 (J Tryz.func61 (by decide))) (J (zb (ok36 n)) (J (zb (ok110 n)) (T1 (zb (ok124 n))))) (T1 (okc trivial trivial)) trivial
abbrev P61 : List SV:=[V5]
abbrev R61 : RV:=.many [.str,V0]
theorem ok61 (n : Nat) : FO 61 P61 R61 (F.za4 n):=zf WOf.st (zxi _ n) (d:=8) fun _ => by kernel_rfl
noncomputable def o61 (n : Nat):=oc 61 P61 R61 (F.za4 n)
noncomputable def cx14 (X : Type) (n : Nat) : Cx X:=mkCx tab.get [(14,Tryz.f14),(32,Tryz.f32)] [o35 n,o36 n,o57 n,o59 n,o61 n] [] [] [] []
theorem zxj (X : Type) (n : Nat) : CxOK Tryz.prog SW (cx14 X n):=mx (J (J Tryz.func14 (by decide)) (T1 (J Tryz.func32 (by decide)))) (J (zb (ok35 n)) (J (zb (ok36 n)) (J (zb (ok57 n)) (J (zb (ok59 n)) (T1 (zb (ok61 n))))))) (J (okc trivial trivial) (T1 (okc trivial trivial))) trivial
abbrev P14 : List SV:=[V5,V0]
abbrev R14 : RV:=.many [.str,V0]
theorem ok14 (n : Nat) : FO 14 P14 R14 (F.zbj n):=zf WOf.st (zxj _ n) (d:=8) fun _ => by kernel_rfl
noncomputable def o14 (n : Nat):=oc 14 P14 R14 (F.zbj n)
def qh79 : Shape:=⟨[(0,V3),(1,V3),(12,V0),(13,V0)],[],[],[],[],0,0,0⟩
def qe79_0 : Shape:=⟨[],[],[],[],[],0,0,0⟩
def qe79_r : Shape:=⟨[(4,.bool)],[],[],[],[],0,0,0⟩
noncomputable def ql79 (X : Type) (n : Nat) : LoopI X:=mkLi 8 0 0 0 qh79 [(0,qe79_0)] [qe79_r] n fun m ks => F.zd.L4 n (fun _ => xe qe79_0 ks 0) (xr qe79_r ks) m
noncomputable def cx153 (X : Type) (n : Nat) : Cx X:=mkCx tab.get [(153,Tryz.f153)] [] [(153,4,[ql79 X n])] [] [] []
theorem qo79 (X : Type) (n : Nat) : LO (cx153 X n) 153 Tryz.f153 0 (ql79 X n):=lok
theorem zut (X : Type) (n : Nat) : CxOK Tryz.prog SW (cx153 X n):=mx (T1 (J Tryz.func153 (by decide))) trivial (T1 (okc (T1 (T1 (qo79 X n))) trivial)) trivial
abbrev P153 : List SV:=[V3,V3]
abbrev R153 : RV:=.one .bool
theorem ok153 (n : Nat) : FO 153 P153 R153 (F.zd n):=zf WOf.st (zut _ n) (d:=8) fun _ => by kernel_rfl
noncomputable def o153 (n : Nat):=oc 153 P153 R153 (F.zd n)
noncomputable def cx93 (X : Type) (n : Nat) : Cx X:=mkCx tab.get [(93,Tryz.f93)] [o153 n] [] [] [] []
theorem zxk (X : Type) (n : Nat) : CxOK Tryz.prog SW (cx93 X n):=mx (T1 (J Tryz.func93 (by decide))) (T1 (zb (ok153 n))) (T1 (okc trivial trivial)) trivial
abbrev P93 : List SV:=[V3,V3]
abbrev R93 : RV:=.one .bool
theorem ok93 (n : Nat) : FO 93 P93 R93 (F.zau n):=zf WOf.st (zxk _ n) (d:=8) fun _ => by kernel_rfl
noncomputable def o93 (n : Nat):=oc 93 P93 R93 (F.zau n)
def qh80 : Shape:=⟨[(0,V4),(1,V4),(12,V0),(13,V0)],[],[],[],[],0,0,0⟩
def qe80_0 : Shape:=⟨[],[],[],[],[],0,0,0⟩
def qe80_r : Shape:=⟨[(4,.bool)],[],[],[],[],0,0,0⟩
noncomputable def ql80 (X : Type) (n : Nat) : LoopI X:=mkLi 8 0 0 0 qh80 [(0,qe80_0)] [qe80_r] n fun m ks => F.ze.L4 n (fun _ => xe qe80_0 ks 0) (xr qe80_r ks) m
noncomputable def cx154 (X : Type) (n : Nat) : Cx X:=mkCx tab.get [(154,Tryz.f154)] [] [(154,4,[ql80 X n])] [] [] []
theorem qo80 (X : Type) (n : Nat) : LO (cx154 X n) 154 Tryz.f154 0 (ql80 X n):=lok
theorem zuu (X : Type) (n : Nat) : CxOK Tryz.prog SW (cx154 X n):=mx (T1 (J Tryz.func154 (by decide))) trivial (T1 (okc (T1 (T1 (qo80 X n))) trivial)) trivial
abbrev P154 : List SV:=[V4,V4]
abbrev R154 : RV:=.one .bool
theorem ok154 (n : Nat) : FO 154 P154 R154 (F.ze n):=zf WOf.st (zuu _ n) (d:=8) fun _ => by kernel_rfl
noncomputable def o154 (n : Nat):=oc 154 P154 R154 (F.ze n)
noncomputable def cx94 (X : Type) (n : Nat) : Cx X:=mkCx tab.get [(94,Tryz.f94)] [o154 n] [] [] [] []
theorem zxl (X : Type) (n : Nat) : CxOK Tryz.prog SW (cx94 X n):=mx (T1 (J Tryz.func94 (by decide))) (T1 (zb (ok154 n))) (T1 (okc trivial trivial)) trivial
abbrev P94 : List SV:=[V4,V4]
abbrev R94 : RV:=.one .bool
theorem ok94 (n : Nat) : FO 94 P94 R94 (F.zav n):=zf WOf.st (zxl _ n) (d:=8) fun _ => by kernel_rfl
noncomputable def o94 (n : Nat):=oc 94 P94 R94 (F.zav n)
noncomputable def cx49 (X : Type) (n : Nat) : Cx X:=mkCx tab.get [(49,Tryz.f49)] [o93 n,o94 n] [] [] [] []
theorem zxm (X : Type) (n : Nat) : CxOK Tryz.prog SW (cx49 X n):=mx (T1 (J Tryz.func49 (by decide))) (J (zb (ok93 n)) (T1 (zb (ok94 n)))) (T1 (okc trivial trivial)) trivial
abbrev P49 : List SV:=[V5,V5]
abbrev R49 : RV:=.one .bool
theorem ok49 (n : Nat) : FO 49 P49 R49 (F.za9 n):=zf WOf.st (zxm _ n) (d:=8) fun _ => by kernel_rfl
noncomputable def o49 (n : Nat):=oc 49 P49 R49 (F.za9 n)
def qh81 : Shape:=⟨[(1,V14),(2,(.const (.fn 49 [] []))),(15,V14),(16,V0),(17,V0)],[],[],[],[],0,0,0⟩
def qe81_0 : Shape:=⟨[],[],[],[],[],0,0,0⟩
def qe81_r : Shape:=⟨[(6,.bool)],[],[],[],[],0,0,0⟩
noncomputable def ql81 (X : Type) (n : Nat) : LoopI X:=mkLi 7 0 0 0 qh81 [(0,qe81_0)] [qe81_r] n fun m ks => F.zv.L4_slices_EqualFunc_api_Metric_api_Metric_api_Metric_api_Metric n (fun _ => xe qe81_0 ks 0) (xr qe81_r ks) m
noncomputable def cx22 (X : Type) (n : Nat) : Cx X:=mkCx tab.get [(22,Tryz.f22),(48,Tryz.f48)] [o49 n] [(48,4,[ql81 X n])] [] [] []
theorem qo81 (X : Type) (n : Nat) : LO (cx22 X n) 48 Tryz.f48 0 (ql81 X n):=lok
theorem zxn (X : Type) (n : Nat) : CxOK Tryz.prog SW (cx22 X n):=mx (J (J Tryz.func22 (by decide)) (T1 (J Tryz.func48 (by decide)))) (T1 (zb (ok49 n))) (J (okc trivial trivial) (T1 (okc (T1 (T1 (qo81 X n))) trivial))) trivial
abbrev P22 : List SV:=[V14,V14]
abbrev R22 : RV:=.one .bool
theorem ok22 (n : Nat) : FO 22 P22 R22 (F.zv n):=zf WOf.st (zxn _ n) (d:=8) fun _ => by kernel_rfl
noncomputable def o22 (n : Nat):=oc 22 P22 R22 (F.zv n)
def qh82 : Shape:=⟨[(0,V14),(3,V0)],[],[],[],[],0,0,0⟩
def qe82_0 : Shape:=⟨[(0,V14)],[],[],[],[],0,0,0⟩
def qe82_r : Shape:=⟨[(2,.bool)],[],[],[],[],0,0,0⟩
noncomputable def ql82 (X : Type) (n : Nat) : LoopI X:=mkLi 8 0 0 0 qh82 [(0,qe82_0)] [qe82_r] n fun m ks => F.zai.L2 n (xe qe82_0 ks 0) (xr qe82_r ks) m
noncomputable def cx23 (X : Type) (n : Nat) : Cx X:=mkCx tab.get [(23,Tryz.f23)] [o13 n] [(23,2,[ql82 X n])] [] [] []
theorem qo82 (X : Type) (n : Nat) : LO (cx23 X n) 23 Tryz.f23 0 (ql82 X n):=lok
theorem zxo (X : Type) (n : Nat) : CxOK Tryz.prog SW (cx23 X n):=mx (T1 (J Tryz.func23 (by decide))) (T1 (zb (ok13 n))) (T1 (okc (T1 (T1 (qo82 X n))) trivial)) trivial
abbrev P23 : List SV:=[V14]
abbrev R23 : RV:=.one .bool
theorem ok23 (n : Nat) : FO 23 P23 R23 (F.zai n):=zf WOf.st (zxo _ n) (d:=8) fun _ => by kernel_rfl
noncomputable def o23 (n : Nat):=oc 23 P23 R23 (F.zai n)
def qh83 : Shape:=⟨[(0,(.const (.yield 0))),(2,(.const (.ref 5 0))),(8,V14),(9,V0),(10,V0)],[[(.sl Y6 (.own 0))],[V0],[V0],[(.sl Y6 (.own 1))],[V14],[(.const (.fn 35 [] []))]],[true,true],[.ready],[(0,52,5,[(4,(.const (.ref 0 0))),(5,(.const (.ref 1 0))),(6,(.const (.ref 2 0))),(7,(.const (.ref 3 0)))])],6,0,1⟩
def qe83_0 : Shape:=⟨[],[[(.sl Y6 (.own 0))],[V0],[V0],[(.sl Y6 (.own 1))],[V14],[(.const (.fn 35 [] []))]],[true,true],[.ready],[],6,0,1⟩
def qe83_r : Shape:=⟨[],[[(.sl Y6 (.own 0))],[V0],[V0],[(.sl Y6 (.own 1))],[V14],[(.const (.fn 35 [] []))]],[true,true],[.done .ret],[],6,0,1⟩
def qe83_rx1 : Shape:=⟨[],[[(.sl Y6 (.own 0))],[V0],[V0],[(.sl Y6 (.own 1))],[V14],[(.const (.fn 35 [] []))]],[true,true],[.ready],[],6,0,1⟩
noncomputable def ql83 (X : Type) (n : Nat) : LoopI X:=mkLi 6 6 0 1 qh83 [(0,qe83_0)] [qe83_r,qe83_rx1] n fun m ks => F.zt.L1_batch_all_api_Metric_1 n (xe qe83_0 ks 0) (xr qe83_r ks) (xr qe83_rx1 ks) m
noncomputable def cx29 (X : Type) (n : Nat) : Cx X:=mkCx tab.get [(29,Tryz.f29),(52,Tryz.f52),(96,Tryz.f96),(155,Tryz.f155)] [o35 n] [(155,1,[ql83 X n])] [(52,5,Tryz.f52,[4,5,6,7],0)] [(52,8,[(0,3)])] []
theorem qo83 (X : Type) (n : Nat) : LO (cx29 X n) 155 Tryz.f155 0 (ql83 X n):=lok
theorem zxp (X : Type) (n : Nat) : CxOK Tryz.prog SW (cx29 X n):=mx (J (J Tryz.func29 (by decide)) (J (J Tryz.func52 (by decide)) (J (J Tryz.func96 (by decide)) (T1 (J Tryz.func155 (by decide)))))) (T1 (zb (ok35 n))) (J (okc trivial trivial) (J (okc trivial (T1 (rfo (cx:=cx29 X n) (g:=52) (i:=5) (lv:=[4,5,6,7]) (show _ = some (Tryz.f52.ntmps,_,rfNo Tryz.f52 0) by kernel_rfl)))) (J (okc trivial trivial) (T1 (okc (T1 (T1 (qo83 X n))) trivial))))) (T1 (J Tryz.func52 rfl))
abbrev P29 : List SV:=[V14]
abbrev R29 : RV:=.many [V14,V0,V0]
theorem ok29 (n : Nat) : FO 29 P29 R29 (F.zt n):=zf WOf.st (zxp _ n) (d:=8) fun _ => by kernel_rfl
noncomputable def o29 (n : Nat):=oc 29 P29 R29 (F.zt n)
noncomputable def cx108 (X : Type) (n : Nat) : Cx X:=mkCx tab.get [(108,Tryz.f108)] [o53 n] [] [] [] []
theorem zuv (X : Type) (n : Nat) : CxOK Tryz.prog SW (cx108 X n):=mx (T1 (J Tryz.func108 (by decide))) (T1 (zb (ok53 n))) (T1 (okc trivial trivial)) trivial
abbrev P108 : List SV:=[V5]
abbrev R108 : RV:=.many [.bool,V0]
theorem ok108 (n : Nat) : FO 108 P108 R108 (F.zbc n):=zf WOf.st (zuv _ n) (d:=8) fun _ => by kernel_rfl
noncomputable def o108 (n : Nat):=oc 108 P108 R108 (F.zbc n)
def qh84 : Shape:=⟨[(0,(.const (.yield 0))),(2,(.const (.ref 5 0))),(8,V14),(9,V0),(10,V0)],[[(.sl .bool (.own 0))],[V0],[V0],[(.sl .bool (.own 1))],[V14],[(.const (.fn 108 [] []))]],[true,true],[.ready],[(0,107,5,[(4,(.const (.ref 0 0))),(5,(.const (.ref 1 0))),(6,(.const (.ref 2 0))),(7,(.const (.ref 3 0)))])],6,0,1⟩
def qe84_0 : Shape:=⟨[],[[(.sl .bool (.own 0))],[V0],[V0],[(.sl .bool (.own 1))],[V14],[(.const (.fn 108 [] []))]],[true,true],[.ready],[],6,0,1⟩
def qe84_r : Shape:=⟨[],[[(.sl .bool (.own 0))],[V0],[V0],[(.sl .bool (.own 1))],[V14],[(.const (.fn 108 [] []))]],[true,true],[.done .ret],[],6,0,1⟩
def qe84_rx1 : Shape:=⟨[],[[(.sl .bool (.own 0))],[V0],[V0],[(.sl .bool (.own 1))],[V14],[(.const (.fn 108 [] []))]],[true,true],[.ready],[],6,0,1⟩
noncomputable def ql84 (X : Type) (n : Nat) : LoopI X:=mkLi 6 6 0 1 qh84 [(0,qe84_0)] [qe84_r,qe84_rx1] n fun m ks => F.zw.L1_batch_all_bool_1 n (xe qe84_0 ks 0) (xr qe84_r ks) (xr qe84_rx1 ks) m
noncomputable def cx56 (X : Type) (n : Nat) : Cx X:=mkCx tab.get [(56,Tryz.f56),(107,Tryz.f107),(164,Tryz.f164),(198,Tryz.f198)] [o108 n] [(198,1,[ql84 X n])] [(107,5,Tryz.f107,[4,5,6,7],0)] [(107,8,[(0,3)])] []
theorem qo84 (X : Type) (n : Nat) : LO (cx56 X n) 198 Tryz.f198 0 (ql84 X n):=lok
theorem zxq (X : Type) (n : Nat) : CxOK Tryz.prog SW (cx56 X n):=mx (J (J Tryz.func56 (by decide)) (J (J Tryz.func107 (by decide)) (J (J Tryz.func164 (by decide)) (T1 (J Tryz.func198 (by decide)))))) (T1 (zb (ok108 n))) (J (okc trivial trivial) (J (okc trivial (T1 (rfo (cx:=cx56 X n) (g:=107) (i:=5) (lv:=[4,5,6,7]) (show _ = some (Tryz.f107.ntmps,_,rfNo Tryz.f107 0) by kernel_rfl)))) (J (okc trivial trivial) (T1 (okc (T1 (T1 (qo84 X n))) trivial))))) (T1 (J Tryz.func107 rfl))
abbrev P56 : List SV:=[V14]
abbrev R56 : RV:=.many [V0,V0]
theorem ok56 (n : Nat) : FO 56 P56 R56 (F.zw n):=zf WOf.st (zxq _ n) (d:=8) fun _ => by kernel_rfl
noncomputable def o56 (n : Nat):=oc 56 P56 R56 (F.zw n)
def qh85 : Shape:=⟨[(6,(.const (.fn 104 [] []))),(29,V14),(30,V0),(31,V0)],[[(.const (.fmp [(1,104),(2,105),(3,106),(4,105)]))]],[],[],[],1,0,0⟩
def qe85_0 : Shape:=⟨[],[[(.const (.fmp [(1,104),(2,105),(3,106),(4,105)]))]],[],[],[],1,0,0⟩
def qe85_r : Shape:=⟨[(4,V0),(5,V0)],[[(.const (.fmp [(1,104),(2,105),(3,106),(4,105)]))]],[],[],[],1,0,0⟩
noncomputable def ql85 (X : Type) (n : Nat) : LoopI X:=mkLi 8 0 0 0 qh85 [(0,qe85_0)] [qe85_r] n fun m ks => F.zk.L8 n (fun _ => xe qe85_0 ks 0) (xr qe85_r ks) m
def qh86 : Shape:=⟨[(6,(.const (.fn 105 [] []))),(29,V14),(30,V0),(31,V0)],[[(.const (.fmp [(1,104),(2,105),(3,106),(4,105)]))]],[],[],[],1,0,0⟩
def qe86_0 : Shape:=⟨[],[[(.const (.fmp [(1,104),(2,105),(3,106),(4,105)]))]],[],[],[],1,0,0⟩
def qe86_r : Shape:=⟨[(4,V0),(5,V0)],[[(.const (.fmp [(1,104),(2,105),(3,106),(4,105)]))]],[],[],[],1,0,0⟩
noncomputable def ql86 (X : Type) (n : Nat) : LoopI X:=mkLi 8 0 0 0 qh86 [(0,qe86_0)] [qe86_r] n fun m ks => F.zk.L8_1 n (fun _ => xe qe86_0 ks 0) (xr qe86_r ks) m
def qh87 : Shape:=⟨[(6,(.const (.fn 106 [] []))),(29,V14),(30,V0),(31,V0)],[[(.const (.fmp [(1,104),(2,105),(3,106),(4,105)]))]],[],[],[],1,0,0⟩
def qe87_0 : Shape:=⟨[],[[(.const (.fmp [(1,104),(2,105),(3,106),(4,105)]))]],[],[],[],1,0,0⟩
def qe87_r : Shape:=⟨[(4,V0),(5,V0)],[[(.const (.fmp [(1,104),(2,105),(3,106),(4,105)]))]],[],[],[],1,0,0⟩
noncomputable def ql87 (X : Type) (n : Nat) : LoopI X:=mkLi 8 0 0 0 qh87 [(0,qe87_0)] [qe87_r] n fun m ks => F.zk.L8_2 n (fun _ => xe qe87_0 ks 0) (xr qe87_r ks) m
noncomputable def cx31 (X : Type) (n : Nat) : Cx X:=mkCx tab.get [(31,Tryz.f31)] [o56 n,o104 n,o105 n,o106 n] [(31,8,[ql85 X n,ql86 X n,ql87 X n])] [] [] [] [] [] [(55,.fmts [(1,104),(2,105),(3,106),(4,105)])] none []
theorem qo85 (X : Type) (n : Nat) : LO (cx31 X n) 31 Tryz.f31 0 (ql85 X n):=lok
theorem qo86 (X : Type) (n : Nat) : LO (cx31 X n) 31 Tryz.f31 0 (ql86 X n):=lok
theorem qo87 (X : Type) (n : Nat) : LO (cx31 X n) 31 Tryz.f31 0 (ql87 X n):=lok
theorem zxr (X : Type) (n : Nat) : CxOK Tryz.prog SW (cx31 X n):=mx (T1 (J Tryz.func31 (by decide))) (J (zb (ok56 n)) (J (zb (ok104 n)) (J (zb (ok105 n)) (T1 (zb (ok106 n)))))) (T1 (okc (T1 (J (qo85 X n) (J (qo86 X n) (T1 (qo87 X n))))) trivial)) trivial (T1 (zog.mono (fun _ _ => trivial)))
abbrev P31 : List SV:=[V14,V0]
abbrev R31 : RV:=.many [V0,V0]
theorem ok31 (n : Nat) : FO 31 P31 R31 (F.zk n):=zf WOf.st (zxr _ n) (d:=8) fun _ => by kernel_rfl
noncomputable def o31 (n : Nat):=oc 31 P31 R31 (F.zk n)
def qh88 : Shape:=⟨[(1,V0),(13,(.sl .str (.own 0))),(48,V14),(49,V0),(50,V0)],[[(.const (.fn 57 [] [])),(.const (.fn 58 [] []))],[(.const (.fn 57 [] [])),(.const (.fn 58 [] []))]],[true],[],[],2,0,0⟩
def qe88_0 : Shape:=⟨[(13,(.sl .str (.own 0)))],[[(.const (.fn 57 [] [])),(.const (.fn 58 [] []))],[(.const (.fn 57 [] [])),(.const (.fn 58 [] []))]],[true],[],[],2,0,0⟩
def qe88_r : Shape:=⟨[(4,(.sl .str (.own 0))),(5,V0),(6,V0)],[[(.const (.fn 57 [] [])),(.const (.fn 58 [] []))],[(.const (.fn 57 [] [])),(.const (.fn 58 [] []))]],[true],[],[],2,0,0⟩
noncomputable def ql88 (X : Type) (n : Nat) : LoopI X:=mkLi 8 0 0 0 qh88 [(0,qe88_0)] [qe88_r] n fun m ks => F.zy.L12 n (xe qe88_0 ks 0) (xr qe88_r ks) m
def qh89 : Shape:=⟨[(1,V0),(13,(.sl .str (.own 0))),(48,V14),(49,V0),(50,V0)],[[(.const (.fn 59 [] [])),(.const (.fn 60 [] []))],[(.const (.fn 59 [] [])),(.const (.fn 60 [] []))]],[true],[],[],2,0,0⟩
def qe89_0 : Shape:=⟨[(13,(.sl .str (.own 0)))],[[(.const (.fn 59 [] [])),(.const (.fn 60 [] []))],[(.const (.fn 59 [] [])),(.const (.fn 60 [] []))]],[true],[],[],2,0,0⟩
def qe89_r : Shape:=⟨[(4,(.sl .str (.own 0))),(5,V0),(6,V0)],[[(.const (.fn 59 [] [])),(.const (.fn 60 [] []))],[(.const (.fn 59 [] [])),(.const (.fn 60 [] []))]],[true],[],[],2,0,0⟩
noncomputable def ql89 (X : Type) (n : Nat) : LoopI X:=mkLi 8 0 0 0 qh89 [(0,qe89_0)] [qe89_r] n fun m ks => F.zy.L12 n (xe qe89_0 ks 0) (xr qe89_r ks) m
def qh90 : Shape:=⟨[(1,V0),(13,(.sl .str (.own 0))),(48,V14),(49,V0),(50,V0)],[[(.const (.fn 61 [] [])),(.const (.fn 62 [] []))],[(.const (.fn 61 [] [])),(.const (.fn 62 [] []))]],[true],[],[],2,0,0⟩
def qe90_0 : Shape:=⟨[(13,(.sl .str (.own 0)))],[[(.const (.fn 61 [] [])),(.const (.fn 62 [] []))],[(.const (.fn 61 [] [])),(.const (.fn 62 [] []))]],[true],[],[],2,0,0⟩
def qe90_r : Shape:=⟨[(4,(.sl .str (.own 0))),(5,V0),(6,V0)],[[(.const (.fn 61 [] [])),(.const (.fn 62 [] []))],[(.const (.fn 61 [] [])),(.const (.fn 62 [] []))]],[true],[],[],2,0,0⟩
noncomputable def ql90 (X : Type) (n : Nat) : LoopI X:=mkLi 8 0 0 0 qh90 [(0,qe90_0)] [qe90_r] n fun m ks => F.zy.L12 n (xe qe90_0 ks 0) (xr qe90_r ks) m
noncomputable def cx24 (X : Type) (n : Nat) : Cx X:=mkCx tab.get [(24,Tryz.f24),(32,Tryz.f32)] [o14 n,o29 n,o31 n] [(24,12,[ql88 X n,ql89 X n,ql90 X n])] [] [] []
theorem qo88 (X : Type) (n : Nat) : LO (cx24 X n) 24 Tryz.f24 0 (ql88 X n):=lok
theorem qo89 (X : Type) (n : Nat) : LO (cx24 X n) 24 Tryz.f24 0 (ql89 X n):=lok
theorem qo90 (X : Type) (n : Nat) : LO (cx24 X n) 24 Tryz.f24 0 (ql90 X n):=lok
theorem zxs (X : Type) (n : Nat) : CxOK Tryz.prog SW (cx24 X n):=mx (J (J Tryz.func24 (by decide)) (T1 (J Tryz.func32 (by decide)))) (J (zb (ok14 n)) (J (zb (ok29 n)) (T1 (zb (ok31 n))))) (J (okc (T1 (J (qo88 X n) (J (qo89 X n) (T1 (qo90 X n))))) trivial) (T1 (okc trivial trivial))) trivial
abbrev P24 : List SV:=[V14,V0]
abbrev R24 : RV:=.many [V9,V0,V0]
theorem ok24 (n : Nat) : FO 24 P24 R24 (F.zy n):=zf WOf.st (zxs _ n) (d:=8) fun _ => by kernel_rfl
noncomputable def o24 (n : Nat):=oc 24 P24 R24 (F.zy n)
def qh91 : Shape:=⟨[(10,(.sl .u8 (.own 0))),(24,V9),(25,V0),(26,V0)],[],[true],[],[],0,0,0⟩
def qe91_0 : Shape:=⟨[(10,(.sl .u8 (.own 0)))],[],[true],[],[],0,0,0⟩
noncomputable def ql91 (X : Type) (n : Nat) : LoopI X:=mkLi 8 0 0 0 qh91 [(0,qe91_0)] [] n fun m ks => F.zx.L6 n (xe qe91_0 ks 0) m
noncomputable def cx25 (X : Type) (n : Nat) : Cx X:=mkCx tab.get [(25,Tryz.f25)] [o24 n] [(25,6,[ql91 X n])] [] [] []
theorem qo91 (X : Type) (n : Nat) : LO (cx25 X n) 25 Tryz.f25 0 (ql91 X n):=lok
theorem zxt (X : Type) (n : Nat) : CxOK Tryz.prog SW (cx25 X n):=mx (T1 (J Tryz.func25 (by decide))) (T1 (zb (ok24 n))) (T1 (okc (T1 (T1 (qo91 X n))) trivial)) trivial
abbrev P25 : List SV:=[V14,V0]
abbrev R25 : RV:=.many [V13,V0,V0]
theorem ok25 (n : Nat) : FO 25 P25 R25 (F.zx n):=zf WOf.st (zxt _ n) (d:=8) fun _ => by kernel_rfl
noncomputable def o25 (n : Nat):=oc 25 P25 R25 (F.zx n)
noncomputable def cx103 (X : Type) (n : Nat) : Cx X:=mkCx tab.get [(103,Tryz.f103)] [] [] [] [] []
theorem zuw (X : Type) (n : Nat) : CxOK Tryz.prog SW (cx103 X n):=mx (T1 (J Tryz.func103 (by decide))) trivial (T1 (okc trivial trivial)) trivial
abbrev P103 : List SV:=[V11,V11]
abbrev R103 : RV:=.one .bool
theorem ok103 (n : Nat) : FO 103 P103 R103 (F.zbq n):=zf WOf.st (zuw _ n) (d:=8) fun _ => by kernel_rfl
noncomputable def o103 (n : Nat):=oc 103 P103 R103 (F.zbq n)
def qh100 : Shape:=⟨[(0,V4),(3,V0)],[],[],[],[],0,0,0⟩
def qe100_0 : Shape:=⟨[],[],[],[],[],0,0,0⟩
def qe100_r : Shape:=⟨[(2,.bool)],[],[],[],[],0,0,0⟩
noncomputable def ql100 (X : Type) (n : Nat) : LoopI X:=mkLi 8 0 0 0 qh100 [(0,qe100_0)] [qe100_r] n fun m ks => F.za2.L2 n (fun _ => xe qe100_0 ks 0) (xr qe100_r ks) m
noncomputable def cx54 (X : Type) (n : Nat) : Cx X:=mkCx tab.get [(54,Tryz.f54)] [o103 n] [(54,2,[ql100 X n])] [] [] []
theorem qo100 (X : Type) (n : Nat) : LO (cx54 X n) 54 Tryz.f54 0 (ql100 X n):=lok
theorem zxu (X : Type) (n : Nat) : CxOK Tryz.prog SW (cx54 X n):=mx (T1 (J Tryz.func54 (by decide))) (T1 (zb (ok103 n))) (T1 (okc (T1 (T1 (qo100 X n))) trivial)) trivial
abbrev P54 : List SV:=[V4]
abbrev R54 : RV:=.one .bool
theorem ok54 (n : Nat) : FO 54 P54 R54 (F.za2 n):=zf WOf.st (zxu _ n) (d:=8) fun _ => by kernel_rfl
noncomputable def o54 (n : Nat):=oc 54 P54 R54 (F.za2 n)
noncomputable def cx30 (X : Type) (n : Nat) : Cx X:=mkCx tab.get [(30,Tryz.f30)] [o53 n,o54 n] [] [] [] []
theorem zxv (X : Type) (n : Nat) : CxOK Tryz.prog SW (cx30 X n):=mx (T1 (J Tryz.func30 (by decide))) (J (zb (ok53 n)) (T1 (zb (ok54 n)))) (T1 (okc trivial trivial)) trivial
abbrev P30 : List SV:=[V5]
abbrev R30 : RV:=.one .bool
theorem ok30 (n : Nat) : FO 30 P30 R30 (F.zba n):=zf WOf.st (zxv _ n) (d:=8) fun _ => by kernel_rfl
noncomputable def o30 (n : Nat):=oc 30 P30 R30 (F.zba n)
def qh101 : Shape:=⟨[(2,V0),(15,V14),(16,(.const (.ref 1 0))),(17,V0)],[[V0,V0],[V0,V0]],[],[],[],2,0,0⟩
def qe101_0 : Shape:=⟨[(2,V0),(15,V14),(16,(.const (.ref 1 0)))],[[V0,V0],[V0,V0]],[],[],[],2,0,0⟩
def qe101_r : Shape:=⟨[(6,.bool)],[[V0,V0],[V0,V0]],[],[],[],2,0,0⟩
noncomputable def ql101 (X : Type) (n : Nat) : LoopI X:=mkLi 8 0 0 0 qh101 [(0,qe101_0)] [qe101_r] n fun m ks => F.zi.L15 n (xe qe101_0 ks 0) (xr qe101_r ks) m
def qh102 : Shape:=⟨[(2,V0),(15,V14),(16,(.const (.ref 0 0))),(17,V0)],[[V0,V0]],[],[],[],1,0,0⟩
def qe102_0 : Shape:=⟨[(2,V0),(15,V14),(16,(.const (.ref 0 0)))],[[V0,V0]],[],[],[],1,0,0⟩
def qe102_r : Shape:=⟨[(6,.bool)],[[V0,V0]],[],[],[],1,0,0⟩
noncomputable def ql102 (X : Type) (n : Nat) : LoopI X:=mkLi 8 0 0 0 qh102 [(0,qe102_0)] [qe102_r] n fun m ks => F.zi.L15_1 n (xe qe102_0 ks 0) (xr qe102_r ks) m
noncomputable def cx8 (X : Type) (n : Nat) : Cx X:=mkCx tab.get [(8,Tryz.f8)] [o9 n,o10 n,o22 n,o23 n,o25 n,o29 n,o30 n,o31 n] [(8,15,[ql101 X n,ql102 X n])] [] [] []
theorem qo101 (X : Type) (n : Nat) : LO (cx8 X n) 8 Tryz.f8 0 (ql101 X n):=lok
theorem qo102 (X : Type) (n : Nat) : LO (cx8 X n) 8 Tryz.f8 0 (ql102 X n):=lok
theorem zyw (X : Type) (n : Nat) : CxOK Tryz.prog SW (cx8 X n):=mx (T1 (J Tryz.func8 (by decide))) (J (zb (ok9 n)) (J (zb (ok10 n)) (J (zb (ok22 n)) (J (zb (ok23 n)) (J (zb (ok25 n)) (J (zb (ok29 n)) (J (zb (ok30 n)) (T1 (zb (ok31 n)))))))))) (T1 (okc (T1 (J (qo101 X n) (T1 (qo102 X n)))) trivial)) trivial
abbrev P8 : List SV:=[V14,V13,V0]
abbrev R8 : RV:=.one .bool
theorem ok8 (n : Nat) : FO 8 P8 R8 (F.zi n):=zf WOf.st (zyw _ n) (d:=8) fun _ => by kernel_rfl
end Go.AM
set_option linter.unusedVariables false
set_option linter.unusedSimpArgs false
namespace Go.AM
def isDig (b : UInt8) : Bool:=decide (48 ≤ b.toNat) && decide (b.toNat ≤ 57)
def dv (b : UInt8) : Nat:=b.toNat - 48
def valF (a : Nat) (l : List UInt8) : Nat:=l.foldl (fun a b => a * 10 + dv b) a
theorem zgw (a : Nat) : valF a [] = a:=rfl
theorem zjn (a : Nat) (b : UInt8) (l : List UInt8) : valF a (b :: l) = valF (a * 10 + dv b) l:=by unfold valF; rw [List.foldl_cons]
def val (l : List UInt8) : Nat:=valF 0 l
def Digs (l : List UInt8) : Prop:=l.all isDig = true
theorem zaj {b : UInt8} : isDig b = true ↔ 48 ≤ b.toNat ∧ b.toNat ≤ 57:=by simp [isDig]
theorem zw {b : UInt8} {l : List UInt8} : Digs (b :: l) ↔ isDig b = true ∧ Digs l:=by simp [Digs]
theorem zl {l m : List UInt8} : Digs (l ++ m) ↔ Digs l ∧ Digs m:=by simp [Digs]
theorem zal (k : Nat) : Digs (List.replicate k 48):=by
  unfold Digs
  rw [List.all_eq_true]
  intro x hx
  rw [List.eq_of_mem_replicate hx]
  rfl
theorem zjo {l : List UInt8} (k : Nat) (h : Digs l) : Digs (l.drop k):=by
  unfold Digs at h ⊢
  rw [List.all_eq_true] at h ⊢
  exact fun x hx => h x (List.mem_of_mem_drop hx)
theorem zff {l : List UInt8} (k : Nat) (h : Digs l) : Digs (l.take k):=by
  unfold Digs at h ⊢
  rw [List.all_eq_true] at h ⊢
  exact fun x hx => h x (List.mem_of_mem_take hx)
theorem zkk {b : UInt8} (h : isDig b = true) : dv b < 10:=by
  have:=zaj.1 h
  unfold dv
  omega
theorem zlo {a b : UInt8} (h : a.toNat = b.toNat) : a = b:=UInt8.toNat_inj.1 h
theorem zdw {a b : UInt8} (ha : isDig a = true) (hb : isDig b = true) (h : dv a = dv b) : a = b:=by
  have h1:=zaj.1 ha
  have h2:=zaj.1 hb
  unfold dv at h
  exact zlo (by omega)
theorem zoh (a : Nat) (l : List UInt8) : valF a l = a * 10 ^ l.length + val l:=by
  unfold val
  induction l generalizing a with
  | nil => rw [zgw,zgw]; simp
  | cons b l ih =>
    simp only [zjn,List.length_cons]
    rw [ih (a * 10 + dv b),ih (0 * 10 + dv b),Nat.pow_succ,Nat.add_mul,Nat.zero_mul,Nat.zero_add,Nat.mul_assoc,Nat.mul_comm 10,Nat.add_assoc]
theorem zcu : val [] = 0:=rfl
theorem zaf (b : UInt8) (l : List UInt8) : val (b :: l) = dv b * 10 ^ l.length + val l:=by
  show valF (0 * 10 + dv b) l = _
  rw [zoh,Nat.zero_mul,Nat.zero_add]
theorem zco (l m : List UInt8) : val (l ++ m) = val l * 10 ^ m.length + val m:=by
  induction l with
  | nil => simp [zcu]
  | cons b l ih => rw [List.cons_append,zaf,zaf,ih,List.length_append,Nat.pow_add,Nat.add_mul,Nat.mul_assoc,Nat.add_assoc]
theorem zec (l : List UInt8) (b : UInt8) : val (l ++ [b]) = val l * 10 + dv b:=by rw [zco,zaf]; simp [zcu]
theorem zc0 {l : List UInt8} (h : Digs l) : val l < 10 ^ l.length:=by
  induction l with
  | nil => simp [zcu]
  | cons b l ih =>
    obtain ⟨h1,h2⟩:=zw.1 h
    have:=ih h2
    have hd:=zkk h1
    rw [zaf,List.length_cons,Nat.pow_succ,Nat.mul_comm (10 ^ l.length)]
    have h3 : dv b * 10 ^ l.length ≤ 9 * 10 ^ l.length:=Nat.mul_le_mul_right _ (by omega)
    omega
theorem zpg : dv 48 = 0:=rfl
theorem zil (k : Nat) : val (List.replicate k 48) = 0:=by
  induction k with
  | zero => rfl
  | succ k ih => rw [List.replicate_succ,zaf,ih,zpg]; simp
theorem zb3 (k : Nat) (l : List UInt8) : val (List.replicate k 48 ++ l) = val l:=by rw [zco,zil]; simp
theorem zab (k : Nat) (l : List UInt8) : val (l ++ List.replicate k 48) = val l * 10 ^ k:=by rw [zco,zil]; simp
theorem zne {l : List UInt8} (hd : Digs l) (h : val l = 0) : l = List.replicate l.length 48:=by
  induction l with
  | nil => rfl
  | cons b l ih =>
    obtain ⟨h1,h2⟩:=zw.1 hd
    rw [zaf] at h
    have hp : 0 < 10 ^ l.length:=Nat.pow_pos (by omega)
    have h3 : dv b = 0:=by
      cases hb : dv b with
      | zero => rfl
      | succ k => rw [hb,Nat.succ_mul] at h; omega
    rw [List.length_cons,List.replicate_succ,← ih h2 (by omega)]
    rw [zdw (a:=b) (b:=48) h1 rfl h3]
theorem zoi {l m : List UInt8} (hl : Digs l) (hm : Digs m) (hlen : l.length = m.length) (h : val l = val m) : l = m:=by
  induction l generalizing m with
  | nil => cases m with
    | nil => rfl
    | cons => simp at hlen
  | cons b l ih => cases m with
    | nil => simp at hlen
    | cons c m =>
      obtain ⟨h1,h2⟩:=zw.1 hl
      obtain ⟨h3,h4⟩:=zw.1 hm
      have hlen : l.length = m.length:=by simpa using hlen
      rw [zaf,zaf,hlen] at h
      have b1:=zc0 h2
      have b2:=zc0 h4
      rw [hlen] at b1
      have hp : 0 < 10 ^ m.length:=Nat.pow_pos (by omega)
      have e : dv b = dv c:=by
        have q1:=congrArg (· / 10 ^ m.length) h
        simp only [Nat.mul_comm (dv b),Nat.mul_comm (dv c),Nat.mul_add_div hp,Nat.div_eq_of_lt b1,Nat.div_eq_of_lt b2] at q1
        omega
      rw [e] at h
      rw [zdw h1 h3 e,ih h2 h4 hlen (by omega)]
theorem zrk (k : Nat) (h : k < 10) : (UInt8.ofNat (48 + k)).toNat = 48 + k:=by simp [UInt8.toNat_ofNat']; omega
theorem zlp (k : Nat) (h : k < 10) : isDig (UInt8.ofNat (48 + k)) = true:=by rw [zaj,zrk k h]; omega
theorem zwb (k : Nat) (h : k < 10) : dv (UInt8.ofNat (48 + k)) = k:=by unfold dv; rw [zrk k h]; omega
theorem zbn {u : Nat} (h : u < 10) : Lib.decDigits u = [UInt8.ofNat (48 + u)]:=Lib.decDigits_one h
theorem zhv {u : Nat} (h : ¬ u < 10) : Lib.decDigits u = Lib.decDigits (u / 10) ++ [UInt8.ofNat (48 + u % 10)]:=by rw [Lib.decDigits,dif_neg h]
theorem zaa (u : Nat) : Digs (Lib.decDigits u):=by
  induction u using Nat.strongRecOn with
  | _ u ih =>
    by_cases h : u < 10
    · rw [zbn h,zw]; exact ⟨zlp u h,rfl⟩
    · rw [zhv h,zl,zw]
      exact ⟨ih _ (by omega),zlp _ (by omega),rfl⟩
theorem zat (u : Nat) : val (Lib.decDigits u) = u:=by
  induction u using Nat.strongRecOn with
  | _ u ih =>
    by_cases h : u < 10
    · rw [zbn h,zaf,zwb u h]; simp [zcu]
    · rw [zhv h,zec,ih _ (by omega),zwb _ (by omega)]; omega
theorem zde (u : Nat) : Lib.decDigits u ≠ []:=by
  by_cases h : u < 10
  · rw [zbn h]; simp
  · rw [zhv h]; simp
theorem zdf (u : Nat) : (Lib.decDigits u).length = Lib.nDigits u:=Lib.decDigits_length u
theorem zfg {u k : Nat} (hk : 0 < k) (h : u < 10 ^ k) : (Lib.decDigits u).length ≤ k:=by
  rw [zdf]
  induction k generalizing u with
  | zero => omega
  | succ k ih =>
    by_cases h1 : u < 10
    · rw [Lib.nDigits_small h1]; omega
    · rw [Lib.nDigits_big h1]
      cases k with
      | zero => simp at h; omega
      | succ k =>
        have:=ih (u:=u / 10) (by omega) (by rw [Nat.pow_succ] at h; omega)
        omega
theorem zlq {u k : Nat} (h : 10 ^ k ≤ u) : k < (Lib.decDigits u).length:=by
  rw [zdf]
  have:=Lib.lt_pow_nDigits u
  exact (Nat.pow_lt_pow_iff_right (by omega)).1 (Nat.lt_of_le_of_lt h this)
def Norm (l : List UInt8) : Prop:=l ≠ [] ∧ (l.head? = some 48→l.length = 1)
theorem zim (u : Nat) : Norm (Lib.decDigits u):=by
  refine ⟨zde u,?_⟩
  induction u using Nat.strongRecOn with
  | _ u ih =>
    by_cases h : u < 10
    · rw [zbn h]; simp
    · rw [zhv h]
      intro hh
      have hn:=zde (u / 10)
      rw [List.head?_append,Option.or_of_isSome (by cases e : Lib.decDigits (u / 10) with | nil => exact absurd e hn | cons => rfl)] at hh
      have h1:=ih (u / 10) (by omega) hh
      have hv:=zat (u / 10)
      cases e : Lib.decDigits (u / 10) with
      | nil => exact absurd e hn
      | cons b r =>
        rw [e] at h1 hh hv
        have hr : r = []:=by simpa using h1
        subst hr
        have hb : b = 48:=by simpa using hh
        subst hb
        rw [zaf,zpg] at hv
        simp [zcu] at hv
        omega
theorem zyx {l : List UInt8} (hd : Digs l) (hn : Norm l) : Lib.decDigits (val l) = l:=by
  have hv:=zat (val l)
  have h1:=zaa (val l)
  have h2:=zim (val l)
  have hlen : (Lib.decDigits (val l)).length = l.length:=by
    cases l with
    | nil => exact absurd rfl hn.1
    | cons b r =>
      have hle : (Lib.decDigits (val (b :: r))).length ≤ (b :: r).length:=zfg (by simp) (zc0 hd)
      by_cases hb : b = 48
      · have : r = []:=by simpa using hn.2 (by simp [hb])
        subst this
        have:=List.length_pos_iff.2 (zde (val [b]))
        simp at hle ⊢
        omega
      · have h3 : 10 ^ r.length ≤ val (b :: r):=by
          rw [zaf]
          have : 1 ≤ dv b:=by
            cases e : dv b with
            | zero => exact absurd (zdw (zw.1 hd).1 (b:=48) rfl e) hb
            | succ k => omega
          have:=Nat.mul_le_mul_right (10 ^ r.length) this
          omega
        have:=zlq h3
        simp at hle ⊢
        omega
  exact zoi h1 hd hlen hv
theorem pu10 (acc : Nat) (l : List UInt8) (hd : Digs l) (ha : acc < 18446744073709551616) : Lib.parseUint10 acc l = if valF acc l < 18446744073709551616 then .ok (valF acc l) else .range:=by
  induction l generalizing acc with
  | nil => rw [zgw,if_pos ha]; rfl
  | cons b l ih =>
    obtain ⟨h1,h2⟩:=zw.1 hd
    have hb:=zaj.1 h1
    have hmono : ∀ x,x ≤ valF x l:=fun x => by
      rw [zoh]
      have : 0 < 10 ^ l.length:=Nat.pow_pos (by omega)
      have:=Nat.le_mul_of_pos_right x this
      omega
    have hm:=hmono (acc * 10 + dv b)
    simp only [Lib.parseUint10,hb,and_self,if_true]
    rw [zjn]
    generalize hV : valF (acc * 10 + dv b) l = V at hm ⊢
    unfold dv at hm
    by_cases h3 : 1844674407370955162 ≤ acc
    · rw [if_pos h3,if_neg (by omega)]
    · rw [if_neg h3]
      by_cases h4 : 18446744073709551616 ≤ acc * 10 + (b.toNat - 48)
      · rw [if_pos h4,if_neg (by omega)]
      · rw [if_neg h4,ih _ h2 (by omega)]
        have : valF (acc * 10 + (b.toNat - 48)) l = V:=hV
        rw [this]
theorem zrl {l : List UInt8} (hd : Digs l) (hn : l ≠ []) : Lib.atoiAll l = if val l < 9223372036854775808 then .ok (val l : Int) else .range:=by
  cases l with
  | nil => exact absurd rfl hn
  | cons b r =>
    have hb:=zaj.1 (zw.1 hd).1
    simp only [Lib.atoiAll]
    rw [if_neg (by omega)]
    unfold Lib.parseMag
    rw [if_neg (by simp),pu10 0 _ hd (by omega)]
    have e : valF 0 (b :: r) = val (b :: r):=rfl
    rw [e]
    by_cases h1 : val (b :: r) < 18446744073709551616
    · rw [if_pos h1]
      simp only []
      by_cases h2 : val (b :: r) < 9223372036854775808
      · rw [if_pos h2,if_neg (by omega),if_neg (by omega),if_neg (by omega)]
      · rw [if_neg h2,if_pos (by omega)]
    · rw [if_neg h1,if_neg (by omega)]
def trz : List UInt8→List UInt8
  | [] => []
  | b :: l => if trz l = [] then (if b = 48 then [] else [b]) else b :: trz l
theorem zrm (l : List UInt8) (c : UInt8) : ∃ k,l = Lib.trimRightB l c ++ List.replicate k c ∧ (∀ x,(Lib.trimRightB l c).getLast? = some x→x ≠ c):=by
  have h:=List.takeWhile_append_dropWhile (p:=fun b : UInt8 => b == c) (l:=l.reverse)
  refine ⟨(l.reverse.takeWhile (· == c)).length,?_,?_⟩
  · unfold Lib.trimRightB
    have h2:=congrArg List.reverse h
    rw [List.reverse_append,List.reverse_reverse] at h2
    have h3 : (l.reverse.takeWhile (· == c)).reverse = List.replicate (l.reverse.takeWhile (· == c)).length c:=by
      rw [List.eq_replicate_iff]
      refine ⟨by simp,fun b hb => ?_⟩
      have:=List.all_eq_true.1 (List.all_takeWhile (p:=fun b : UInt8 => b == c) (l:=l.reverse)) b (List.mem_reverse.1 hb)
      simpa using this
    rw [h3] at h2
    exact h2.symm
  · intro x hx
    unfold Lib.trimRightB at hx
    rw [List.getLast?_reverse] at hx
    have:=List.head?_dropWhile_not (p:=fun b : UInt8 => b == c) (l:=l.reverse)
    rw [hx] at this
    simpa using this
theorem zbh (l : List UInt8) : ∃ k,l = trz l ++ List.replicate k 48 ∧ (∀ x,(trz l).getLast? = some x→x ≠ 48):=by
  induction l with
  | nil => exact ⟨0,rfl,by simp [trz]⟩
  | cons b l ih =>
    obtain ⟨k,h1,h2⟩:=ih
    unfold trz
    by_cases h : trz l = []
    · rw [if_pos h]
      rw [h,List.nil_append] at h1
      by_cases hb : b = 48
      · rw [if_pos hb]
        exact ⟨k + 1,by rw [List.replicate_succ,← h1,hb]; rfl,by simp⟩
      · rw [if_neg hb]
        exact ⟨k,by rw [← h1]; rfl,by simp [hb]⟩
    · rw [if_neg h]
      refine ⟨k,by rw [List.cons_append,← h1],?_⟩
      intro x hx
      rw [List.getLast?_cons] at hx
      cases e : (trz l).getLast? with
      | none => simp at e; exact absurd e h
      | some y =>
        rw [e] at hx
        have hy:=h2 y e
        simp at hx
        rw [← hx]; exact hy
theorem zgx {a b : List UInt8} {c : UInt8} {i j : Nat} (h : a ++ List.replicate i c = b ++ List.replicate j c) (ha : ∀ x,a.getLast? = some x→x ≠ c) (hb : ∀ x,b.getLast? = some x→x ≠ c) : a = b:=by
  induction i generalizing j with
  | zero =>
    cases j with
    | zero => simpa using h
    | succ j =>
      rw [List.replicate_succ',← List.append_assoc] at h
      simp only [List.replicate_zero,List.append_nil] at h
      exact absurd rfl (ha c (by rw [h]; simp))
  | succ i ih =>
    cases j with
    | zero =>
      rw [List.replicate_succ',← List.append_assoc] at h
      simp only [List.replicate_zero,List.append_nil] at h
      exact absurd rfl (hb c (by rw [← h]; simp))
    | succ j =>
      rw [List.replicate_succ',List.replicate_succ',← List.append_assoc,← List.append_assoc] at h
      exact ih (List.append_inj_left' h rfl)
theorem zjp (l : List UInt8) : Lib.trimRightB l 48 = trz l:=by
  obtain ⟨i,h1,h2⟩:=zrm l 48
  obtain ⟨j,h3,h4⟩:=zbh l
  exact zgx (h1.symm.trans h3) h2 h4
theorem zjq (l : List UInt8) (k : Nat) : trz (l ++ List.replicate k 48) = trz l:=by
  obtain ⟨i,h1,h2⟩:=zbh (l ++ List.replicate k 48)
  obtain ⟨j,h3,h4⟩:=zbh l
  refine zgx (i:=i) (j:=j + k) (c:=48) ?_ h2 h4
  rw [← h1]
  conv => lhs; rw [h3]
  rw [List.append_assoc,List.replicate_append_replicate]
theorem zlr {l : List UInt8} (h : ∀ x,l.getLast? = some x→x ≠ 48) : trz l = l:=by
  obtain ⟨j,h3,h4⟩:=zbh l
  exact (zgx (i:=0) (j:=j) (c:=48) (by rw [← h3]; simp) h h4).symm
theorem zcd (l : List UInt8) : (trz l).length ≤ l.length:=by
  obtain ⟨k,h1,_⟩:=zbh l
  have:=congrArg List.length h1
  simp at this
  omega
theorem zbc {l : List UInt8} (h : Digs l) : Digs (trz l):=by
  obtain ⟨k,h1,_⟩:=zbh l
  rw [h1,zl] at h
  exact h.1
theorem zb4 (l : List UInt8) : l = trz l ++ List.replicate (l.length - (trz l).length) 48:=by
  obtain ⟨k,h1,_⟩:=zbh l
  have:=congrArg List.length h1
  simp at this
  rw [show l.length - (trz l).length = k from by omega]
  exact h1
theorem zed {l : List UInt8} {x : UInt8} (h : (trz l).getLast? = some x) : x ≠ 48:=by
  obtain ⟨k,_,h2⟩:=zbh l
  exact h2 x h
theorem zin {l : List UInt8} (hd : Digs l) : trz l = [] ↔ val l = 0:=by
  constructor
  · intro h
    have:=zb4 l
    rw [h,List.nil_append] at this
    rw [this,zil]
  · intro h
    have:=zne hd h
    obtain ⟨k,h1,h2⟩:=zbh l
    rw [this] at h1 ⊢
    have:=zjq [] l.length
    simpa [trz] using this
end Go.AM
set_option linter.unusedVariables false
set_option linter.unusedSimpArgs false
namespace Go.AM
abbrev DecD:=Bool × Int × Int × Unit
abbrev DecR:=DecD × Int × Unit
def two64 : Nat:=18446744073709551616
theorem z7 : two64 = 18446744073709551616:=rfl
def normR (neg : Bool) (c0 : Nat) (E : Int) : DecR:=
  if E < -18 then ((false,0,0,()),10,()) else if c0 * 10 ^ (E - 18).toNat < two64 then ((neg,((c0 * 10 ^ (E - 18).toNat : Nat) : Int),(if E ≤ 18 then E else 18),()),0,()) else ((false,0,0,()),10,())
def zeroD : DecR:=((false,0,0,()),0,())
def valR (neg : Bool) (d : List UInt8) (e : Int) : DecR:=
  if val d = 0 then zeroD else normR neg (val (trz d)) (e + ((d.length - (trz d).length : Nat) : Int))
theorem zxw (d : List UInt8) : val d = val (trz d) * 10 ^ (d.length - (trz d).length):=by
  have:=congrArg val (zb4 d)
  rw [zab] at this
  exact this
theorem zls {d : List UInt8} (hd : Digs d) (h : val d ≠ 0) : val (trz d) % 10 ≠ 0:=by
  have hne : trz d ≠ []:=fun hh => h ((zin hd).1 hh)
  obtain ⟨x,hx⟩ : ∃ x,(trz d).getLast? = some x:=by
    cases e : (trz d).getLast? with
    | none => simp at e; exact absurd e hne
    | some x => exact ⟨x,rfl⟩
  have hx48:=zed hx
  obtain ⟨ys,hys⟩:=List.getLast?_eq_some_iff.1 hx
  have hdig:=zbc hd
  rw [hys] at hdig ⊢
  obtain ⟨_,h2⟩:=zl.1 hdig
  obtain ⟨h3,_⟩:=zw.1 h2
  rw [zec]
  have:=zkk h3
  have h0 : dv x ≠ 0:=fun h0 => hx48 (zdw h3 (b:=48) rfl h0)
  omega
theorem znf {a b i j : Nat} (ha : a % 10 ≠ 0) (hb : b % 10 ≠ 0) (h : a * 10 ^ i = b * 10 ^ j) : a = b ∧ i = j:=by
  induction i generalizing j with
  | zero =>
    cases j with
    | zero => simpa using h
    | succ j => rw [Nat.pow_zero,Nat.mul_one,Nat.pow_succ,← Nat.mul_assoc] at h; omega
  | succ i ih =>
    cases j with
    | zero => rw [Nat.pow_zero,Nat.mul_one,Nat.pow_succ,← Nat.mul_assoc] at h; omega
    | succ j =>
      rw [Nat.pow_succ,Nat.pow_succ,← Nat.mul_assoc,← Nat.mul_assoc] at h
      obtain ⟨h1,h2⟩:=ih (Nat.eq_of_mul_eq_mul_right (by omega) h)
      exact ⟨h1,by omega⟩
theorem zac {d : List UInt8} (hd : Digs d) {c0 z : Nat} (h0 : c0 % 10 ≠ 0) (hv : val d = c0 * 10 ^ z) (neg : Bool) (e : Int) : valR neg d e = normR neg c0 (e + z):=by
  have hne : val d ≠ 0:=by
    rw [hv]
    have:=Nat.mul_pos (show 0 < c0 by omega) (Nat.pow_pos (n:=z) (show 0 < 10 by omega))
    omega
  unfold valR
  rw [if_neg hne]
  obtain ⟨h1,h2⟩:=znf (zls hd hne) h0 ((zxw d).symm.trans hv)
  rw [h1,h2]
theorem zbd (c : Nat) (h : 0 < c) : ∃ c0 z,c = c0 * 10 ^ z ∧ c0 % 10 ≠ 0:=by
  induction c using Nat.strongRecOn with
  | _ c ih =>
    by_cases h1 : c % 10 = 0
    · obtain ⟨c0,z,h2,h3⟩:=ih (c / 10) (by omega) (by omega)
      exact ⟨c0,z + 1,by rw [Nat.pow_succ,← Nat.mul_assoc,← h2]; omega,h3⟩
    · exact ⟨c,0,by simp,h1⟩
theorem zhw (neg : Bool) {d : List UInt8} (hd : Digs d) (k : Nat) (e : Int) : valR neg (List.replicate k 48 ++ d) e = valR neg d e:=by
  have hD : Digs (List.replicate k 48 ++ d):=zl.2 ⟨zal _,hd⟩
  by_cases h : val d = 0
  · have : val (List.replicate k 48 ++ d) = 0:=by rw [zb3,h]
    unfold valR
    rw [if_pos h,if_pos this]
  · obtain ⟨c0,z,h1,h2⟩:=zbd (val d) (by omega)
    rw [zac hd h2 h1,zac hD h2 (by rw [zb3,h1])]
theorem zbo (neg : Bool) {d : List UInt8} (hd : Digs d) (k : Nat) (e : Int) : valR neg (d ++ List.replicate k 48) e = valR neg d (e + k):=by
  have hD : Digs (d ++ List.replicate k 48):=zl.2 ⟨hd,zal _⟩
  by_cases h : val d = 0
  · have : val (d ++ List.replicate k 48) = 0:=by rw [zab,h]; simp
    unfold valR
    rw [if_pos h,if_pos this]
  · obtain ⟨c0,z,h1,h2⟩:=zbd (val d) (by omega)
    rw [zac hd h2 h1,zac hD h2 (z:=z + k) (by rw [zab,h1,Nat.pow_add,Nat.mul_assoc])]
    congr 1
    omega
theorem zlt (n : Nat) (c d : Nat) (hc : c < two64) (hd : d < two64) : F.zbi n (c : Int) (d : Int) = some ((((c * 10 + d) % two64 : Nat) : Int),decide (c * 10 + d < two64),()):=by
  unfold F.zbi O.mul64
  rw [z7] at *
  rw [zd (by omega),za]
  unfold O.add64
  rw [show (c : Int).toNat = c from rfl,show (10 : Int).toNat = 10 from rfl]
  dsimp only
  rw [zd (by omega),za]
  simp only [Int.toNat_natCast,show (0 : Int).toNat = 0 from rfl,Nat.add_zero]
  by_cases h : c * 10 < 18446744073709551616
  · have e1 : ((((c * 10 / 18446744073709551616 : Nat) : Int)) == 0) = true:=by simp; omega
    rw [e1,cond_true]
    have e2 : c * 10 % 18446744073709551616 = c * 10:=Nat.mod_eq_of_lt h
    rw [e2]
    congr 2
    congr 1
    by_cases h2 : c * 10 + d < 18446744073709551616
    · have : (c * 10 + d) / 18446744073709551616 = 0:=Nat.div_eq_of_lt h2
      simp [h2,this]
    · have : ¬ (c * 10 + d) / 18446744073709551616 = 0:=by omega
      have e : ((((c * 10 + d) / 18446744073709551616 : Nat) : Int) == 0) = false:=by simp; omega
      rw [e]; simp [h2]
  · have e1 : ((((c * 10 / 18446744073709551616 : Nat) : Int)) == 0) = false:=by simp; omega
    rw [e1,cond_false]
    have : ¬ c * 10 + d < 18446744073709551616:=by omega
    simp only [this,decide_false]
    congr 2
    omega
theorem zph (n : Nat) (X : Type) (k0 : Bool→Int→Int→Bool→Int→Int→Option X) (neg b : Bool) (x y : Int) (c0 : Nat) (h0 : c0 % 10 ≠ 0) : ∀ (z m : Nat) (e : Int),c0 * 10 ^ z < two64→-9223372036854775808 ≤ e→e + z ≤ 9223372036854775807→z < m →
    ∃ j,j ≤ z ∧ F.zf.L3 n k0 m neg ((c0 * 10 ^ z : Nat) : Int) e b x y = k0 neg ((c0 * 10 ^ j : Nat) : Int) (e + z - j) b x y ∧ (j = 0 ∨ 18 ≤ e + z - j) ∧ (e + z - j ≤ 18 ∨ j = z):=by
  intro z
  induction z with
  | zero =>
    intro m e hc he1 he2 hm
    obtain ⟨m,rfl⟩ : ∃ q,m = q + 1:=⟨m - 1,by omega⟩
    refine ⟨0,Nat.le_refl _,?_,Or.inl rfl,Or.inr rfl⟩
    show F.zf.L3.step n _ k0 _ _ _ _ _ _ = _
    unfold F.zf.L3.step
    have e1 : ((((c0 * 10 ^ 0 : Nat) : Int).tmod 10) == 0) = false:=by
      rw [Nat.pow_zero,Nat.mul_one]
      have : ¬ ((c0 : Int).tmod 10) = 0:=by
        rw [show ((c0 : Int).tmod 10) = ((c0 % 10 : Nat) : Int) from rfl]; omega
      simpa using this
    rw [e1,cond_false]
    congr 1
    omega
  | succ z ih =>
    intro m e hc he1 he2 hm
    obtain ⟨m,rfl⟩ : ∃ q,m = q + 1:=⟨m - 1,by omega⟩
    have hstep : F.zf.L3 n k0 (m + 1) neg ((c0 * 10 ^ (z + 1) : Nat) : Int) e b x y = F.zf.L3.step n (F.zf.L3 n k0 m) k0 neg ((c0 * 10 ^ (z + 1) : Nat) : Int) e b x y:=rfl
    have hmul : c0 * 10 ^ (z + 1) = c0 * 10 ^ z * 10:=by rw [Nat.pow_succ,Nat.mul_assoc]
    have e1 : ((((c0 * 10 ^ (z + 1) : Nat) : Int).tmod 10) == 0) = true:=by
      have : ((c0 * 10 ^ (z + 1) : Nat) : Int).tmod 10 = 0:=by
        rw [show (((c0 * 10 ^ (z + 1) : Nat) : Int).tmod 10) = ((c0 * 10 ^ (z + 1) % 10 : Nat) : Int) from rfl]; omega
      simpa using this
    have e2 : ((c0 * 10 ^ (z + 1) : Nat) : Int).tdiv 10 = ((c0 * 10 ^ z : Nat) : Int):=by
      rw [show (((c0 * 10 ^ (z + 1) : Nat) : Int).tdiv 10) = ((c0 * 10 ^ (z + 1) / 10 : Nat) : Int) from rfl]; omega
    rw [hstep]
    unfold F.zf.L3.step
    rw [e1,cond_true]
    by_cases h18 : e < 18
    · rw [zd h18,e2,IntWalk.u64_in _ (by rw [z7] at hc; omega),zi (by omega)]
      obtain ⟨j,j1,j2,j3,j4⟩:=ih m (e + 1) (by omega) (by omega) (by omega) (by omega)
      refine ⟨j,by omega,?_,?_,?_⟩
      · rw [j2]
        congr 1
        omega
      · rcases j3 with j3 | j3
        · exact Or.inl j3
        · exact Or.inr (by omega)
      · rcases j4 with j4 | j4
        · exact Or.inl (by omega)
        · exact Or.inl (by omega)
    · rw [zg h18]
      refine ⟨z + 1,Nat.le_refl _,?_,Or.inr (by omega),Or.inr rfl⟩
      congr 1
      omega
theorem zjr (n : Nat) (X : Type) (k2 : Bool→Int→Int→Bool→Int→Int→Option X) (K : Int→Bool→Int→Int→Option X) (neg b : Bool) (x y : Int) : ∀ (m c d : Nat),0 < c→c < two64→two64 ≤ c * 10 ^ m→18 + (d : Int) ≤ 9223372036854775807 →
    F.zf.L5 n k2 (fun q _ _ _ u v w => K q u v w) (m + 1) neg (c : Int) (18 + (d : Int)) b x y = if c * 10 ^ d < two64 then k2 neg ((c * 10 ^ d : Nat) : Int) 18 b x y else K 10 false 0 0:=by
  intro m
  induction m with
  | zero => intro c d h1 h2 h3; rw [Nat.pow_zero,Nat.mul_one] at h3; omega
  | succ m ih =>
    intro c d h1 h2 h3 h4
    have hstep : F.zf.L5 n k2 (fun q _ _ _ u v w => K q u v w) (m + 1 + 1) neg (c : Int) (18 + (d : Int)) b x y = F.zf.L5.step n (F.zf.L5 n k2 (fun q _ _ _ u v w => K q u v w) (m + 1)) k2 (fun q _ _ _ u v w => K q u v w) neg (c : Int) (18 + (d : Int)) b x y:=rfl
    rw [hstep]
    unfold F.zf.L5.step
    cases d with
    | zero =>
      rw [zg (by omega),Nat.pow_zero,Nat.mul_one,if_pos h2]
      rfl
    | succ d =>
      rw [zd (by omega),show (0 : Int) = ((0 : Nat) : Int) from rfl,zlt n c 0 h2 (by decide),za]
      have hp : c * 10 ≤ c * 10 ^ (d + 1):=by
        rw [Nat.pow_succ,← Nat.mul_assoc]
        have : 0 < 10 ^ d:=Nat.pow_pos (by omega)
        have:=Nat.le_mul_of_pos_right c this
        omega
      by_cases hf : c * 10 + 0 < two64
      · simp only [hf,decide_true,Bool.not_true,cond_false]
        rw [zi (by omega),show (18 + ((d + 1 : Nat) : Int) - 1) = 18 + (d : Int) from by omega,Nat.mod_eq_of_lt hf]
        have:=ih (c * 10 + 0) d (by omega) hf (by rw [Nat.pow_succ] at h3; rw [Nat.add_zero,Nat.mul_assoc,Nat.mul_comm 10]; exact h3) (by omega)
        rw [show ((0 : Nat) : Int) = (0 : Int) from rfl] at *
        rw [this,Nat.add_zero,Nat.mul_assoc,Nat.mul_comm 10,← Nat.pow_succ]
      · have : ¬ c * 10 ^ (d + 1) < two64:=by omega
        simp only [hf,decide_false,Bool.not_false,cond_true]
        rw [if_neg this]
theorem zng (n : Nat) (hn : 100 ≤ n) (neg : Bool) (c0 z : Nat) (h0 : c0 % 10 ≠ 0) (hc : c0 * 10 ^ z < two64) (e : Int) (he : -9223372036854775808 ≤ e ∧ e ≤ 9223372036854775807) :
    F.zf n (neg,((c0 * 10 ^ z : Nat) : Int),e,()) = some (normR neg c0 (e + z)):=by
  have hz : z ≤ 20:=by
    refine Classical.byContradiction fun hh => ?_
    have h1 : 10 ^ 20 ≤ 10 ^ z:=Nat.pow_le_pow_right (by omega) (by omega)
    have h2:=Nat.le_mul_of_pos_left (10 ^ z) (show 0 < c0 by omega)
    rw [z7] at hc
    omega
  have hpos : 0 < c0 * 10 ^ z:=Nat.mul_pos (by omega) (Nat.pow_pos (by omega))
  unfold F.zf
  have e0 : (((c0 * 10 ^ z : Nat) : Int) == 0) = false:=by
    have : ¬ ((c0 * 10 ^ z : Nat) : Int) = 0:=by omega
    simpa using this
  simp only [e0,cond_false]
  by_cases hbig : 9223372036854775807 < e + z
  ·
    have h18 : ¬ e < 18:=by omega
    obtain ⟨m,rfl⟩ : ∃ q,n = q + 1:=⟨n - 1,by omega⟩
    have hs : ∀ (k0 : Bool→Int→Int→Bool→Int→Int→Option DecR),F.zf.L3 (m + 1) k0 (m + 1) neg ((c0 * 10 ^ z : Nat) : Int) e false 0 0 = k0 neg ((c0 * 10 ^ z : Nat) : Int) e false 0 0:=by
      intro k0
      show F.zf.L3.step (m + 1) (F.zf.L3 (m + 1) k0 m) k0 _ _ _ _ _ _ = _
      unfold F.zf.L3.step
      rw [zg h18]
      cases (((c0 * 10 ^ z : Nat) : Int).tmod 10 == 0) <;> rfl
    rw [hs]
    obtain ⟨d,hd⟩ : ∃ d : Nat,e = 18 + (d : Int):=⟨(e - 18).toNat,by omega⟩
    have hfuel : two64 ≤ c0 * 10 ^ z * 10 ^ m:=by
      have h1 : 10 ^ 20 ≤ 10 ^ m:=Nat.pow_le_pow_right (by omega) (by omega)
      have h2:=Nat.le_mul_of_pos_left (10 ^ m) hpos
      rw [z7]
      omega
    rw [hd,zjr (m + 1) _ _ (fun q u v w => some ((u,v,w,()),q,())) neg false 0 0 m _ d hpos hc hfuel (by omega)]
    have hnot : ∀ w,20 ≤ w→¬ c0 * 10 ^ w < two64:=by
      intro w hw
      have h1 : 10 ^ 20 ≤ 10 ^ w:=Nat.pow_le_pow_right (by omega) hw
      have h2:=Nat.le_mul_of_pos_left (10 ^ w) (show 0 < c0 by omega)
      rw [z7]
      omega
    unfold normR
    rw [if_neg (show ¬ 18 + (d : Int) + z < -18 by omega),if_neg (by rw [Nat.mul_assoc,← Nat.pow_add]; exact hnot _ (by omega)),if_neg (hnot _ (by omega))]
  · obtain ⟨j,j1,j2,j3,j4⟩:=zph n DecR (fun e1_b0_0 e1_b0_1 e1_b0_2 e1_b1_0 e1_b1_1 e1_b1_2 =>
        F.zf.L5 n
          (fun e3_b0_0 e3_b0_1 e3_b0_2 e3_b1_0 e3_b1_1 e3_b1_2 =>
            bif decide (e3_b0_2 < (-18 : Int)) then
              some (((false,(0 : Int),(0 : Int),()),(10 : Int),()))
            else
              some (((e3_b0_0,e3_b0_1,e3_b0_2,()),(0 : Int),())))
          (fun e4_3 e4_b0_0 e4_b0_1 e4_b0_2 e4_b1_0 e4_b1_1 e4_b1_2 =>
            some (((e4_b1_0,e4_b1_1,e4_b1_2,()),e4_3,()))) n e1_b0_0 e1_b0_1 e1_b0_2 e1_b1_0 e1_b1_1 e1_b1_2) neg false 0 0 c0 h0 z n e hc he.1 (by omega) (by omega)
    refine j2.trans ?_
    have hcj : c0 * 10 ^ j < two64:=by
      have h1 : 10 ^ j ≤ 10 ^ z:=Nat.pow_le_pow_right (by omega) j1
      have:=Nat.mul_le_mul_left c0 h1
      omega
    have hposj : 0 < c0 * 10 ^ j:=Nat.mul_pos (by omega) (Nat.pow_pos (by omega))
    obtain ⟨m,rfl⟩ : ∃ q,n = q + 1:=⟨n - 1,by omega⟩
    by_cases hE : 18 ≤ e + z - j
    · obtain ⟨d,hd⟩ : ∃ d : Nat,e + z - j = 18 + (d : Int):=⟨(e + z - j - 18).toNat,by omega⟩
      have hfuel : two64 ≤ c0 * 10 ^ j * 10 ^ m:=by
        have h1 : 10 ^ 20 ≤ 10 ^ m:=Nat.pow_le_pow_right (by omega) (by omega)
        have h2:=Nat.le_mul_of_pos_left (10 ^ m) hposj
        rw [z7]
        omega
      show F.zf.L5 (m + 1) _ _ (m + 1) neg _ (e + z - j) false 0 0 = _
      rw [hd,zjr (m + 1) _ _ (fun q u v w => some ((u,v,w,()),q,())) neg false 0 0 m _ d hposj hcj hfuel (by omega)]
      unfold normR
      rw [if_neg (show ¬ e + z < -18 by omega),Nat.mul_assoc,← Nat.pow_add,show j + d = (e + z - 18).toNat from by omega]
      by_cases hf : c0 * 10 ^ (e + z - 18).toNat < two64
      · rw [if_pos hf,if_pos hf,zg (by omega)]
        congr 3
        by_cases hh : e + z ≤ 18
        · rw [if_pos hh,show e + (z : Int) = 18 from by omega]
        · rw [if_neg hh]
      · rw [if_neg hf,if_neg hf]
    · have hj0 : j = 0:=by omega
      subst hj0
      have hlow : ∀ (k2 : Bool→Int→Int→Bool→Int→Int→Option DecR) (kr : Int→Bool→Int→Int→Bool→Int→Int→Option DecR) (c : Int) (E : Int),¬ E > 18→F.zf.L5 (m + 1) k2 kr (m + 1) neg c E false 0 0 = k2 neg c E false 0 0:=by
        intro k2 kr c E hE
        show F.zf.L5.step (m + 1) (F.zf.L5 (m + 1) k2 kr m) k2 kr neg c E false 0 0 = _
        unfold F.zf.L5.step
        rw [zg hE]
      rw [hlow _ _ _ _ (by omega)]
      unfold normR
      rw [Nat.pow_zero,Nat.mul_one,show (e + (z : Int) - 18).toNat = 0 from by omega,Nat.pow_zero,Nat.mul_one,show (e + (z : Int) - ((0 : Nat) : Int)) = e + z from by omega]
      by_cases h18 : e + z < -18
      · rw [zd h18,if_pos h18]
      · rw [zg h18,if_neg h18,if_pos (by rw [Nat.pow_zero,Nat.mul_one] at hcj; exact hcj),if_pos (by omega)]
theorem zdg (n : Nat) (hn : 100 ≤ n) (neg : Bool) (c : Nat) (hc : c < two64) (e : Int) (he : -9223372036854775808 ≤ e ∧ e ≤ 9223372036854775807) : F.zf n (neg,(c : Int),e,()) = some (valR neg (Lib.decDigits c) e):=by
  by_cases h : c = 0
  · subst h
    unfold valR
    rw [if_pos (zat 0)]
    rfl
  · obtain ⟨c0,z,h1,h2⟩:=zbd c (by omega)
    rw [zac (zaa c) h2 (by rw [zat]; exact h1)]
    rw [h1] at hc ⊢
    exact zng n hn neg c0 z h2 hc e he
end Go.AM
set_option linter.unusedVariables false
set_option linter.unusedSimpArgs false
namespace Go.AM
def lz (d : List UInt8) : List UInt8:=d.dropWhile (· == 48)
theorem zlu (d : List UInt8) : d = List.replicate (d.length - (lz d).length) 48 ++ lz d:=by
  induction d with
  | nil => rfl
  | cons b d ih =>
    unfold lz at ih ⊢
    by_cases h : b = 48
    · subst h
      have e : ((48 : UInt8) :: d).dropWhile (· == 48) = d.dropWhile (· == 48):=by simp [List.dropWhile_cons]
      have hl : (d.dropWhile (· == 48)).length ≤ d.length:=(List.dropWhile_sublist _).length_le
      rw [e,List.length_cons,show d.length + 1 - (d.dropWhile (· == 48)).length = (d.length - (d.dropWhile (· == 48)).length) + 1 from by omega,List.replicate_succ,List.cons_append,← ih]
    · have e : (b :: d).dropWhile (· == 48) = b :: d:=by simp [List.dropWhile_cons,h]
      rw [e]
      simp
theorem zyy (d : List UInt8) : val (lz d) = val d:=by
  conv => rhs; rw [zlu d]
  rw [zb3]
theorem zoj {d : List UInt8} (h : Digs d) : Digs (lz d):=by
  rw [zlu d,zl] at h
  exact h.2
theorem zy2 (d : List UInt8) : (lz d).length ≤ d.length:=(List.dropWhile_sublist _).length_le
theorem zyz {d : List UInt8} (hd : Digs d) (hne : d ≠ []) (hh : ∀ x,d.head? = some x→x ≠ 48) : 10 ^ (d.length - 1) ≤ val d:=by
  cases d with
  | nil => exact absurd rfl hne
  | cons b d =>
    obtain ⟨h1,h2⟩:=zw.1 hd
    have h0 : dv b ≠ 0:=fun h0 => hh b rfl (zdw h1 (b:=48) rfl h0)
    rw [zaf]
    have:=Nat.le_mul_of_pos_left (10 ^ d.length) (show 0 < dv b by omega)
    simp
    omega
end Go.AM
set_option linter.unusedVariables false
set_option linter.unusedSimpArgs false
namespace Go.AM
abbrev FaultR:=Int × Int × Unit
abbrev ParseR:=DecD × FaultR × Unit
theorem za5 (n : Nat) (s : List UInt8) (c : UInt8) : F.z6 n s [c] = some (decide (s.head? = some c)):=by
  unfold F.z6 F.z8
  cases s with
  | nil => rfl
  | cons b s =>
    have e : sub (b :: s) (0 : Int) ((([c] : List UInt8).length : Nat) : Int) = some [b]:=zz (b :: s) 0 1 (by omega) (by simp)
    rw [zd (by simp; omega),e,za,za]
    by_cases h : b = c
    · subst h; simp
    · simp [h]
def tw (s : List UInt8) : List UInt8:=s.takeWhile isDig
theorem zcv (s : List UInt8) : Digs (tw s):=List.all_takeWhile
theorem zlv (s : List UInt8) : s = tw s ++ s.drop (tw s).length:=by
  induction s with
  | nil => rfl
  | cons b s ih =>
    unfold tw at ih ⊢
    by_cases h : isDig b = true
    · simp only [List.takeWhile_cons,h,if_true,List.length_cons,List.drop_succ_cons,List.cons_append]
      rw [← ih]
    · simp [List.takeWhile_cons,h]
theorem zwc (s : List UInt8) : (tw s).length ≤ s.length:=(List.takeWhile_sublist _).length_le
theorem zfh {a t : List UInt8} (ha : Digs a) (ht : ∀ x,t.head? = some x→isDig x = false) : tw (a ++ t) = a:=by
  induction a with
  | nil =>
    cases t with
    | nil => rfl
    | cons x t =>
      have:=ht x rfl
      simp [tw,List.takeWhile_cons,this]
  | cons b a ih =>
    obtain ⟨h1,h2⟩:=zw.1 ha
    have:=ih h2
    unfold tw at this ⊢
    simp [List.takeWhile_cons,h1,this]
theorem zgh (n : Nat) (X : Type) (k0 : Int→(List UInt8)→Int→Int→Int→Option X) (v3 b0 b1 : Int) (s : List UInt8) (hs : s.length < 4611686018427387904) : ∀ (r : List UInt8) (k m : Nat),s.drop k = r→k ≤ s.length→r.length < m →
    F.zab.L2_dec_look_1 n k0 m v3 s b0 b1 (k : Int) = k0 v3 s b0 b1 ((k + (tw r).length : Nat) : Int):=by
  intro r
  induction r with
  | nil =>
    intro k m hk hkl hm
    have:=zm hk
    obtain ⟨m,rfl⟩ : ∃ q,m = q + 1:=⟨m - 1,by omega⟩
    show F.zab.L2_dec_look_1.step n _ k0 _ _ _ _ _ = _
    unfold F.zab.L2_dec_look_1.step
    rw [zg (by omega)]
    rfl
  | cons x r ih =>
    intro k m hk hkl hm
    obtain ⟨h1,h2,h3⟩:=zk hk
    obtain ⟨m,rfl⟩ : ∃ q,m = q + 1:=⟨m - 1,by omega⟩
    show F.zab.L2_dec_look_1.step n (F.zab.L2_dec_look_1 n k0 m) k0 _ _ _ _ _ = _
    unfold F.zab.L2_dec_look_1.step
    rw [zd (by omega),zr,h2,za,za]
    unfold tw at ih ⊢
    by_cases hd : isDig x = true
    · have hx:=zaj.1 hd
      rw [zd (by omega),zd (by omega),zh (by omega),ih (k + 1) m h3 (by omega) (by simp at hm; omega)]
      simp only [List.takeWhile_cons,hd,if_true,List.length_cons]
      congr 2
      omega
    · simp only [List.takeWhile_cons,hd,if_false]
      by_cases h48 : 48 ≤ x.toNat
      · have : ¬ x.toNat ≤ 57:=fun h => hd (zaj.2 ⟨h48,h⟩)
        rw [zd (by omega),zg (by omega)]
        rfl
      · rw [zg (by omega)]
        rfl
def p0 (s : List UInt8) : Nat:=if s.head? = some 45 then 1 else 0
def p1q (q : Nat) (s : List UInt8) : Nat:=q + (tw (s.drop q)).length
def p3q (q : Nat) (s : List UInt8) : Nat:=p1q q s + 1 + (tw (s.drop (p1q q s + 1))).length
theorem zkl (s : List UInt8) : p0 s ≤ s.length:=by
  unfold p0
  cases s with
  | nil => simp
  | cons b s => split <;> simp
theorem zpi {q : Nat} {s : List UInt8} (hq : q ≤ s.length) : p1q q s ≤ s.length:=by
  have h2:=zwc (s.drop q)
  simp at h2
  unfold p1q
  omega
theorem zok {s : List UInt8} {k : Nat} {x : UInt8} (h : (s.drop k).head? = some x) : k < s.length:=by
  cases e : s.drop k with
  | nil => rw [e] at h; simp at h
  | cons b r =>
    have:=congrArg List.length e
    simp at this
    omega
theorem zy3 {q : Nat} {s : List UInt8} (h : (s.drop (p1q q s)).head? = some 46) : p3q q s ≤ s.length:=by
  have h1:=zok h
  have h2:=zwc (s.drop (p1q q s + 1))
  simp at h2
  unfold p3q
  omega
def endR (right : Prop) [Decidable right] (at' : Nat) (len : Nat) : FaultR:=
  if right ∧ at' = len then (0,0,()) else if at' = len then (11,(at' : Int),()) else (14,(at' : Int),())
def lookQ (q : Nat) (s : List UInt8) : FaultR:=
  if q < p1q q s ∧ (s.drop (p1q q s)).head? = some 46 then endR (p1q q s + 1 < p3q q s) (p3q q s) s.length else endR (q < p1q q s) (p1q q s) s.length
def lookR (s : List UInt8) : FaultR:=lookQ (p0 s) s
theorem zrn (a b : Nat) (at' len : Nat) : (bif decide ((at' : Int) > (a : Int)) then
      bif (at' : Int) == (len : Int) then some (((0 : Int),(0 : Int),())) else bif (at' : Int) == (len : Int) then some (((11 : Int),(at' : Int),())) else some (((14 : Int),(at' : Int),()))
    else bif (at' : Int) == (len : Int) then some (((11 : Int),(at' : Int),())) else some (((14 : Int),(at' : Int),()))) = some (endR (a < at') at' len):=by
  unfold endR
  by_cases h1 : at' = len
  · have e : ((at' : Int) == (len : Int)) = true:=by simp [h1]
    rw [e]
    by_cases h2 : a < at'
    · rw [zd (by omega),if_pos ⟨h2,h1⟩]; rfl
    · rw [zg (by omega),if_neg (fun h => h2 h.1),if_pos h1]; rfl
  · have e : ((at' : Int) == (len : Int)) = false:=by
      have : ¬ (at' : Int) = (len : Int):=by omega
      simpa using this
    rw [e,if_neg (fun h => h1 h.2),if_neg h1]
    simp only [cond_false]
    cases decide ((at' : Int) > (a : Int)) <;> rfl
theorem zjs (n : Nat) (s : List UInt8) (hs : s.length < 4000000000000000000) (hn : s.length < n) (q : Nat) (hq : q ≤ s.length) :
    F.zab.L2_dec_look_1 n
        (fun e4_3 e4_b0_0 e4_b1_0 e4_b1_1 e4_b2_0 =>
          bif decide (e4_b2_0 > e4_3) then
            (sub e4_b0_0 e4_b2_0 (e4_b0_0.length : Int)).bind fun x5 =>
              (F.z6 n x5 ([46])).bind fun y6 =>
                bif y6 then
                  F.zab.L2_dec_look_1 n
                    (fun e7_3 e7_b0_0 e7_b1_0 e7_b1_1 e7_b2_0 =>
                      bif decide (e7_b2_0 > e7_3) then
                        bif e7_b2_0 == (e7_b0_0.length : Int) then
                          some (((0 : Int),(0 : Int),()))
                        else
                        bif e7_b2_0 == (e7_b0_0.length : Int) then
                          some (((11 : Int),e7_b2_0,()))
                        else
                          some (((14 : Int),e7_b2_0,()))
                      else
                      bif e7_b2_0 == (e7_b0_0.length : Int) then
                        some (((11 : Int),e7_b2_0,()))
                      else
                        some (((14 : Int),e7_b2_0,()))) n (IntKind.wrap .i64 (e4_b2_0 + (1 : Int))) e4_b0_0 e4_b1_0 e4_b1_1 (IntKind.wrap .i64 (e4_b2_0 + (1 : Int)))
                else
                bif decide (e4_b2_0 > e4_3) then
                  bif e4_b2_0 == (e4_b0_0.length : Int) then
                    some (((0 : Int),(0 : Int),()))
                  else
                  bif e4_b2_0 == (e4_b0_0.length : Int) then
                    some (((11 : Int),e4_b2_0,()))
                  else
                    some (((14 : Int),e4_b2_0,()))
                else
                bif e4_b2_0 == (e4_b0_0.length : Int) then
                  some (((11 : Int),e4_b2_0,()))
                else
                  some (((14 : Int),e4_b2_0,()))
          else
          bif decide (e4_b2_0 > e4_3) then
            bif e4_b2_0 == (e4_b0_0.length : Int) then
              some (((0 : Int),(0 : Int),()))
            else
            bif e4_b2_0 == (e4_b0_0.length : Int) then
              some (((11 : Int),e4_b2_0,()))
            else
              some (((14 : Int),e4_b2_0,()))
          else
          bif e4_b2_0 == (e4_b0_0.length : Int) then
            some (((11 : Int),e4_b2_0,()))
          else
            some (((14 : Int),e4_b2_0,()))) n (q : Int) s (0 : Int) (0 : Int) (q : Int)
    = some (lookQ q s):=by
  rw [zgh n _ _ _ _ _ s (by omega) (s.drop q) q n rfl hq (by simp; omega)]
  have hkl : p1q q s ≤ s.length:=zpi hq
  show (bif decide (((p1q q s : Nat) : Int) > (q : Int)) then _ else _) = _
  unfold lookQ
  have hk3 : p3q q s = p1q q s + 1 + (tw (s.drop (p1q q s + 1))).length:=rfl
  have hsh : q + (tw (s.drop q)).length = p1q q s:=rfl
  simp only [hsh]
  generalize p3q q s = k3 at hk3 ⊢
  clear hsh
  generalize p1q q s = k at hkl hk3 ⊢
  subst hk3
  have hE:=zrn q 0 k s.length
  rw [hE]
  by_cases h1 : q < k
  · rw [zd (by omega)]
    have hsub : sub s (k : Int) (s.length : Int) = some (s.drop k):=by
      have:=zz s k s.length hkl (Nat.le_refl _)
      rw [List.take_length] at this
      exact this
    rw [hsub,za,za5,za]
    by_cases h2 : (s.drop k).head? = some 46
    · have hlt : k < s.length:=by
        cases e : s.drop k with
        | nil => rw [e] at h2; simp at h2
        | cons b r =>
          have:=congrArg List.length e
          simp at this
          omega
      rw [decide_eq_true h2,cond_true,if_pos ⟨h1,h2⟩,zh (by omega),zgh n _ _ _ _ _ s (by omega) (s.drop (k + 1)) (k + 1) n rfl (by omega) (by simp; omega)]
      exact zrn (k + 1) 0 _ s.length
    · rw [decide_eq_false h2,cond_false,if_neg (fun h => h2 h.2)]
  · rw [zg (by omega),if_neg (fun h => h1 h.1)]
theorem zxx (n : Nat) (s : List UInt8) (hs : s.length < 4000000000000000000) (hn : s.length < n) : F.zab n s = some (lookR s):=by
  unfold F.zab
  rw [za5,za]
  by_cases h : s.head? = some 45
  · have hp : p0 s = 1:=by unfold p0; rw [if_pos h]
    rw [decide_eq_true h,cond_true]
    have hq : 1 ≤ s.length:=by have:=zkl s; omega
    have:=zjs n s hs hn 1 hq
    refine this.trans ?_
    unfold lookR
    rw [hp]
  · have hp : p0 s = 0:=by unfold p0; rw [if_neg h]
    rw [decide_eq_false h,cond_false]
    have:=zjs n s hs hn 0 (by omega)
    refine this.trans ?_
    unfold lookR
    rw [hp]
end Go.AM
set_option linter.unusedVariables false
set_option linter.unusedSimpArgs false
namespace Go.AM
def outR (r : DecR) : ParseR:=if r.2.1 = 0 then (r.1,(0,0,()),()) else ((false,0,0,()),(r.2.1,0,()),())
def badR (f : FaultR) : ParseR:=((false,0,0,()),f,())
def aheadD (s : List UInt8) : List UInt8:=tw (s.drop (p0 s))
def behindD (s : List UInt8) : List UInt8:=if (s.drop (p1q (p0 s) s)).head? = some 46 then tw (s.drop (p1q (p0 s) s + 1)) else []
def negD (s : List UInt8) : Bool:=decide (s.head? = some 45)
def parseR (s : List UInt8) : ParseR:=
  if (lookR s).1 = 0 then outR (valR (negD s) (aheadD s ++ behindD s) (-((behindD s).length : Int))) else badR (lookR s)
theorem zro (neg : Bool) (d : List UInt8) (e : Int) : (valR neg d e).2.1 = 0 ∨ (valR neg d e).2.1 = 10 ∧ (valR neg d e).1 = (false,0,0,()):=by
  unfold valR zeroD normR
  by_cases h : val d = 0
  · rw [if_pos h]; exact Or.inl rfl
  · rw [if_neg h]
    split
    · exact Or.inr ⟨rfl,rfl⟩
    · split
      · exact Or.inl rfl
      · exact Or.inr ⟨rfl,rfl⟩
theorem zjt {d d' : List UInt8} (hd : Digs d) (hd' : Digs d') (h : val d = val d') (neg : Bool) (e : Int) : valR neg d e = valR neg d' e:=by
  by_cases h0 : val d = 0
  · unfold valR
    rw [if_pos h0,if_pos (h ▸ h0)]
  · obtain ⟨c0,z,h1,h2⟩:=zbd (val d) (by omega)
    rw [zac hd h2 h1,zac hd' h2 (h ▸ h1)]
theorem zux {d : List UInt8} (hd : Digs d) (h : two64 ≤ val d) (ht : trz d = d) (neg : Bool) (e : Int) : valR neg d e = ((false,0,0,()),10,()):=by
  have h0 : val d ≠ 0:=by rw [z7] at h; omega
  have hc:=zls hd h0
  rw [ht] at hc
  rw [zac hd hc (z:=0) (by simp)]
  unfold normR
  split
  · rfl
  · rw [if_neg]
    have:=Nat.le_mul_of_pos_right (val d) (Nat.pow_pos (n:=(e + ((0 : Nat) : Int) - 18).toNat) (show 0 < 10 by omega))
    omega
end Go.AM
set_option linter.unusedVariables false
set_option linter.unusedSimpArgs false
namespace Go.AM
theorem zrp (n : Nat) (X : Type) (k0 : Bool→Int→Int→Int→Int→Int→Int→Bool→Int→Int→Option X) (s : List UInt8) (hs : s.length < 4611686018427387904) (b : Bool) (x1 x2 x3 x4 x5 x6 : Int) (neg : Bool) (E : Int) : ∀ (r : List UInt8) (k m : Nat),s.drop k = r→k ≤ s.length→r.length < m→Digs r→val (s.take k) < two64 →
    F.z1.L14 n k0 m s (s.length : Int) (k : Int) b x1 x2 x3 x4 x5 x6 neg (val (s.take k) : Int) E = if val s < two64 then k0 b x1 x2 x3 x4 x5 x6 neg (val s) E else k0 b x1 x2 x3 x4 x5 x6 neg 1 (-19):=by
  intro r
  induction r with
  | nil =>
    intro k m hk hkl hm hd hv
    have hk:=zm hk
    obtain ⟨m,rfl⟩ : ∃ q,m = q + 1:=⟨m - 1,by omega⟩
    show F.z1.L14.step n _ k0 _ _ _ _ _ _ _ _ _ _ _ _ _ = _
    unfold F.z1.L14.step
    rw [List.take_of_length_le hk] at hv ⊢
    rw [zg (by omega),if_pos hv]
  | cons x r ih =>
    intro k m hk hkl hm hd hv
    obtain ⟨h1,h2,h3⟩:=zk hk
    obtain ⟨d1,d2⟩:=zw.1 hd
    have hx:=zaj.1 d1
    obtain ⟨m,rfl⟩ : ∃ q,m = q + 1:=⟨m - 1,by omega⟩
    show F.z1.L14.step n (F.z1.L14 n k0 m) k0 _ _ _ _ _ _ _ _ _ _ _ _ _ = _
    unfold F.z1.L14.step
    have htk : s.take (k + 1) = s.take k ++ [x]:=by rw [List.take_add_one,h2]; rfl
    have hvk : val (s.take (k + 1)) = val (s.take k) * 10 + dv x:=by rw [htk,zec]
    have hsv : val (s.take (k + 1)) ≤ val s:=by
      have e : s = s.take (k + 1) ++ s.drop (k + 1):=(List.take_append_drop _ _).symm
      have h5 : val s = val (s.take (k + 1)) * 10 ^ (s.drop (k + 1)).length + val (s.drop (k + 1)):=by
        conv => lhs; rw [e]
        rw [zco]
      have:=Nat.le_mul_of_pos_right (val (s.take (k + 1))) (Nat.pow_pos (n:=(s.drop (k + 1)).length) (show 0 < 10 by omega))
      omega
    have hdl:=zkk d1
    have hdx : IntKind.wrap .u64 (IntKind.wrap .u8 ((x.toNat : Int) - 48)) = (dv x : Int):=by
      have h8 : IntKind.wrap .u8 ((x.toNat : Int) - 48) = (x.toNat : Int) - 48:=IntWalk.u8_in _ (by omega)
      rw [h8,IntWalk.u64_in _ (by omega)]; unfold dv; omega
    rw [zd (by omega),zr,h2,za,hdx,zlt n _ _ hv (by rw [z7]; omega),za,← hvk,zh (by omega)]
    by_cases hf : val (s.take (k + 1)) < two64
    · simp only [hf,decide_true,Bool.not_true,cond_false,Nat.mod_eq_of_lt hf]
      exact ih (k + 1) m h3 (by omega) (by simp at hm; omega) d2 hf
    · simp only [hf,decide_false,Bool.not_false,cond_true]
      rw [if_neg (by omega)]
theorem zkg (n : Nat) (s : List UInt8) : F.z7 n s [45] = some (s.drop (p0 s),negD s,()):=by
  unfold F.z7 F.zao
  have hp : F.z8 n s [45] = some (decide (s.head? = some 45)):=by
    have:=za5 n s 45
    unfold F.z6 at this
    cases e : F.z8 n s [45] with
    | none => rw [e] at this; cases this
    | some b => rw [e] at this; exact this
  rw [hp,za]
  unfold p0 negD
  by_cases h : s.head? = some 45
  · have hl : 1 ≤ s.length:=by cases s with | nil => simp at h | cons => simp
    have hsub : sub s ((([45] : List UInt8).length : Nat) : Int) (s.length : Int) = some (s.drop 1):=by
      have:=zz s 1 s.length hl (Nat.le_refl _)
      rw [List.take_length] at this
      exact this
    rw [decide_eq_true h,Bool.not_true,cond_false,hsub,if_pos h]
    rfl
  · rw [decide_eq_false h,Bool.not_false,cond_true,if_neg h]
    rfl
theorem znh {a t : List UInt8} (ha : Digs a) : Lib.indexByte (a ++ 46 :: t) 46 = (a.length : Int):=by
  induction a with
  | nil => simp [Lib.indexByte]
  | cons b a ih =>
    obtain ⟨h1,h2⟩:=zw.1 ha
    have hb : ¬ b = 46:=fun h => by subst h; simp [isDig] at h1
    have:=ih h2
    simp only [List.cons_append,Lib.indexByte,beq_iff_eq,hb,if_false,this]
    have hne : ¬ (a.length : Int) = -1:=by omega
    simp [hne]
theorem zpj {a : List UInt8} (ha : Digs a) : Lib.indexByte a 46 = -1:=by
  induction a with
  | nil => rfl
  | cons b a ih =>
    obtain ⟨h1,h2⟩:=zw.1 ha
    have hb : ¬ b = 46:=fun h => by subst h; simp [isDig] at h1
    simp [Lib.indexByte,hb,ih h2]
theorem zio {s : List UInt8} (h : (lookR s).1 = 0) : lookR s = (0,0,()) ∧ aheadD s ≠ [] ∧
    ((s.drop (p0 s) = aheadD s ∧ behindD s = []) ∨ (s.drop (p0 s) = aheadD s ++ 46 :: behindD s ∧ behindD s ≠ [])):=by
  unfold lookR lookQ at h ⊢
  have split:=zlv (s.drop (p0 s))
  rw [List.drop_drop] at split
  have hle:=zpi (zkl s)
  by_cases hp : p0 s < p1q (p0 s) s ∧ (s.drop (p1q (p0 s) s)).head? = some 46
  · rw [if_pos hp] at h ⊢
    unfold endR at h ⊢
    by_cases h3 : p1q (p0 s) s + 1 < p3q (p0 s) s ∧ p3q (p0 s) s = s.length
    · rw [if_pos h3]
      refine ⟨rfl,?_,Or.inr ?_⟩
      · intro hh
        have : (tw (s.drop (p0 s))).length = 0:=by unfold aheadD at hh; rw [hh]; rfl
        have:=hp.1
        unfold p1q at this
        omega
      · have hb : behindD s = tw (s.drop (p1q (p0 s) s + 1)):=by unfold behindD; rw [if_pos hp.2]
        have h2:=zlv (s.drop (p1q (p0 s) s + 1))
        rw [List.drop_drop] at h2
        have h4 : s.drop (p1q (p0 s) s + 1 + (tw (s.drop (p1q (p0 s) s + 1))).length) = []:=List.drop_eq_nil_of_le (by
          have h5:=h3.2
          unfold p3q at h5
          omega)
        rw [h4,List.append_nil] at h2
        have h5 : s.drop (p1q (p0 s) s) = 46 :: s.drop (p1q (p0 s) s + 1):=by
          cases e : s.drop (p1q (p0 s) s) with
          | nil => rw [e] at hp; simp at hp
          | cons c r =>
            rw [e] at hp
            have hc : c = 46:=by simpa using hp.2
            subst hc
            obtain ⟨_,_,g3⟩:=zk e
            rw [g3]
        refine ⟨?_,?_⟩
        · rw [split]
          have : s.drop (p0 s + (tw (s.drop (p0 s))).length) = s.drop (p1q (p0 s) s):=rfl
          rw [this,h5,hb,← h2]
          rfl
        · rw [hb]
          intro hh
          have h6:=h3.1
          unfold p3q at h6
          rw [hh] at h6
          simp at h6
    · rw [if_neg h3] at h
      split at h <;> cases h
  · rw [if_neg hp] at h ⊢
    unfold endR at h ⊢
    by_cases h3 : p0 s < p1q (p0 s) s ∧ p1q (p0 s) s = s.length
    · rw [if_pos h3]
      have hd : s.drop (p1q (p0 s) s) = []:=List.drop_eq_nil_of_le (by omega)
      refine ⟨rfl,?_,Or.inl ⟨?_,?_⟩⟩
      · intro hh
        have : (tw (s.drop (p0 s))).length = 0:=by unfold aheadD at hh; rw [hh]; rfl
        have:=h3.1
        unfold p1q at this
        omega
      · have : s.drop (p0 s + (tw (s.drop (p0 s))).length) = s.drop (p1q (p0 s) s):=rfl
        rw [this,hd,List.append_nil] at split
        exact split
      · unfold behindD
        rw [hd]
        simp
    · rw [if_neg h3] at h
      split at h <;> cases h
theorem zdp (s : List UInt8) : Digs (behindD s):=by
  unfold behindD
  split
  · exact zcv _
  · rfl
theorem zrq (n : Nat) {s : List UInt8} (hs : s.length ≤ 10000) (h : (lookR s).1 = 0) : ∃ f,F.zaa n (s.drop (p0 s)) [46] = some (aheadD s,behindD s,f,()):=by
  obtain ⟨_,_,h3⟩:=zio h
  unfold F.zaa F.za5 O.index1
  rcases h3 with ⟨a,b⟩ | ⟨a,b⟩
  · have hi : Lib.indexByte (aheadD s) 46 = -1:=zpj (zcv _)
    rw [a,b]
    simp only [za]
    rw [hi]
    exact ⟨false,rfl⟩
  · have hl : (aheadD s ++ 46 :: behindD s).length ≤ 10000:=by rw [← a]; simp; omega
    have hl2 : (aheadD s).length + ((behindD s).length + 1) ≤ 10000:=by simpa using hl
    have hi : Lib.indexByte (aheadD s ++ 46 :: behindD s) 46 = ((aheadD s).length : Int):=znh (zcv _)
    rw [a]
    simp only [za]
    rw [hi]
    have s1 : sub (aheadD s ++ 46 :: behindD s) 0 ((aheadD s).length : Int) = some (aheadD s):=by
      have:=zz (aheadD s ++ 46 :: behindD s) 0 (aheadD s).length (by omega) (by simp)
      rw [List.drop_zero,List.take_left'] at this
      · exact this
      · rfl
    have hdr : (aheadD s ++ 46 :: behindD s).drop ((aheadD s).length + 1) = behindD s:=by
      rw [List.drop_append,List.drop_eq_nil_of_le (by omega),List.nil_append,show (aheadD s).length + 1 - (aheadD s).length = 1 from by omega]
      rfl
    have s2 : sub (aheadD s ++ 46 :: behindD s) (((aheadD s).length + 1 : Nat) : Int) ((aheadD s ++ 46 :: behindD s).length : Int) = some (behindD s):=by
      have:=zz (aheadD s ++ 46 :: behindD s) ((aheadD s).length + 1) (aheadD s ++ 46 :: behindD s).length (by simp) (Nat.le_refl _)
      rw [List.take_length,hdr] at this
      exact this
    have hw : IntKind.wrap .i64 (((aheadD s).length : Int) + ((([46] : List UInt8).length : Nat) : Int)) = (((aheadD s).length + 1 : Nat) : Int):=zh (by omega)
    rw [zd (by omega),s1,za,hw,s2]
    exact ⟨true,rfl⟩
theorem zlw (n : Nat) {s : List UInt8} (h : s.length ≤ 10000) : O.trimR n s [48] = some (trz s):=by
  unfold O.trimR
  have hb : (Nat.blt (48 : UInt8).toNat 128 && Nat.ble s.length big47) = true:=by
    rw [Bool.and_eq_true,Nat.ble_eq]
    exact ⟨rfl,by unfold big47; omega⟩
  simp only [hb,cond_true,zjp]
theorem zuy (n : Nat) {s : List UInt8} (h : s.length ≤ 10000) : O.trimL n s [48] = some (lz s):=by
  unfold O.trimL
  have hb : (Nat.blt (48 : UInt8).toNat 128 && Nat.ble s.length big47) = true:=by
    rw [Bool.and_eq_true,Nat.ble_eq]
    exact ⟨rfl,by unfold big47; omega⟩
  simp only [hb,cond_true]
  rfl
theorem zxy (d : List UInt8) : trz (trz d) = trz d:=zlr (fun x hx => zed hx)
theorem zxz (neg : Bool) {d : List UInt8} (hd : Digs d) (e : Int) : valR neg (lz d) e = valR neg d e:=zjt (zoj hd) hd (zyy d) neg e
theorem zgy (n : Nat) (hn : 200000 ≤ n) (neg : Bool) (d : List UInt8) (hd : Digs d) (hl : d.length ≤ 10000) (E : Int) (hE : -100000 ≤ E ∧ E ≤ 100000) (ht : trz d = d) (x1 x2 x3 x4 x5 x6 : Int) :
    F.z1.L14 n
                        (fun e9_b0_0 e9_b0_1 e9_b0_2 e9_b1_0 e9_b1_1 e9_b2_0 e9_b2_1 e9_b3_0 e9_b3_1 e9_b3_2 =>
                          (F.zf n (e9_b3_0,e9_b3_1,e9_b3_2,())).bind fun y10 =>
                            bif !(y10.2.1 == (0 : Int)) then
                              some (((false,(0 : Int),(0 : Int),()),(y10.2.1,(0 : Int),()),()))
                            else
                              some (((y10.1.1,y10.1.2.1,y10.1.2.2.1,()),((0 : Int),(0 : Int),()),()))) n d (d.length : Int) (0 : Int) false x1 x2 x3 x4 x5 x6 neg (0 : Int) E
    = some (outR (valR neg d E)):=by
  refine (zrp n _ _ d (by omega) false x1 x2 x3 x4 x5 x6 neg E d 0 n rfl (by omega) (by omega) hd (by rw [List.take_zero,zcu,z7]; omega)).trans ?_
  have out : ∀ r : DecR,(r.2.1 = 0 ∨ r.2.1 = 10 ∧ r.1 = (false,0,0,()))→((some r).bind fun y10 =>
                            bif !(y10.2.1 == (0 : Int)) then
                              some (((false,(0 : Int),(0 : Int),()),(y10.2.1,(0 : Int),()),()))
                            else
                              some (((y10.1.1,y10.1.2.1,y10.1.2.2.1,()),((0 : Int),(0 : Int),()),()))) = some (outR r):=by
    intro r hr
    rw [za]
    unfold outR
    rcases hr with h | ⟨h1,h2⟩
    · rw [h,if_pos rfl]; rfl
    · rw [h1,if_neg (by decide)]; rfl
  by_cases hv : val d < two64
  · rw [if_pos hv,zdg n (by omega) neg _ hv E (by omega),zjt (zaa _) hd (zat _)]
    exact out _ (zro neg d E)
  · have h19:=zdg n (by omega) neg 1 (by decide) (-19) (by omega)
    have hb:=zux hd (by omega) ht neg E
    rw [if_neg hv,show (1 : Int) = ((1 : Nat) : Int) from rfl,h19,hb]
    have e1 : valR neg (Lib.decDigits 1) (-19) = ((false,0,0,()),10,()):=by
      rw [zac (zaa 1) (c0:=1) (z:=0) (by decide) (by rw [zat])]
      unfold normR
      rw [if_pos (by omega)]
    rw [e1]
    exact out _ (Or.inr ⟨rfl,rfl⟩)
theorem zdq (n : Nat) (hn : 200000 ≤ n) (s : List UInt8) (hs : s.length ≤ 10000) : F.z1 n s = some (parseR s):=by
  unfold F.z1
  rw [zxx n s (by omega) (by omega),za]
  by_cases h : (lookR s).1 = 0
  · obtain ⟨h1,h2,h3⟩:=zio h
    obtain ⟨f,hcut⟩:=zrq n hs h
    have e0 : (!((0 : Int) == 0 && (0 : Int) == 0)) = false:=rfl
    rw [h1]
    simp only [e0,cond_false]
    rw [zkg,za]
    simp only [hcut,za]
    have ha : Digs (aheadD s):=zcv _
    have hb:=zdp s
    have hlen : (aheadD s).length + (behindD s).length ≤ 10000:=by
      have hd : (s.drop (p0 s)).length ≤ 10000:=by simp; omega
      rcases h3 with ⟨a,b⟩ | ⟨a,b⟩
      · rw [b]; rw [a] at hd; simpa using hd
      · rw [a] at hd; simp at hd; omega
    unfold parseR
    rw [if_pos h]
    generalize aheadD s = a at *
    generalize behindD s = b at *
    have htb:=zcd b
    rw [zlw n (by omega),za,zd (by rw [zn]; omega),zuy n (by simp; omega),za]
    have hab : Digs (a ++ trz b):=zl.2 ⟨ha,zbc hb⟩
    have hall:=zy2 (a ++ trz b)
    have hallL : (lz (a ++ trz b)).length ≤ a.length + (trz b).length:=by simpa using hall
    have hts:=zcd (lz (a ++ trz b))
    rw [zlw n (by omega),za]
    have hval : valR (negD s) (lz (a ++ trz b)) (-((trz b).length : Int)) = valR (negD s) (a ++ b) (-(b.length : Int)):=by
      rw [zxz _ hab]
      have hpad:=zb4 b
      conv => rhs; rw [hpad]
      rw [← List.append_assoc,zbo _ hab]
      congr 1
      simp
      omega
    have hD:=zoj hab
    have hw : IntKind.wrap .i64 (0 - ((trz b).length : Int)) = -((trz b).length : Int):=by rw [zi (by omega)]; omega
    rw [hw]
    by_cases hz : (trz b).length = 0
    · have ez : (-((trz b).length : Int) == 0) = true:=by simp [hz]
      rw [ez,cond_true]
      by_cases hsh : (trz (lz (a ++ trz b))).length < (lz (a ++ trz b)).length
      · have hw2 : IntKind.wrap .i64 (((lz (a ++ trz b)).length : Int) - ((trz (lz (a ++ trz b))).length : Int)) = (((lz (a ++ trz b)).length - (trz (lz (a ++ trz b))).length : Nat) : Int):=by rw [zi (by omega)]; omega
        rw [zd (by omega),hw2]
        have:=zgy n hn (negD s) _ (zbc hD) (by omega) (((lz (a ++ trz b)).length - (trz (lz (a ++ trz b))).length : Nat) : Int) (by omega) (zxy _) 0 0 0 0 0 0
        refine this.trans ?_
        congr 2
        rw [← hval,hz]
        have hpad:=zb4 (lz (a ++ trz b))
        conv => rhs; rw [hpad]
        rw [zbo _ (zbc hD)]
        congr 1
        omega
      · have hq : trz (lz (a ++ trz b)) = lz (a ++ trz b):=by
          have hpad:=zb4 (lz (a ++ trz b))
          rw [show (lz (a ++ trz b)).length - (trz (lz (a ++ trz b))).length = 0 from by omega,List.replicate_zero,List.append_nil] at hpad
          exact hpad.symm
        rw [zg (by omega)]
        have:=zgy n hn (negD s) _ hD (by omega) (-((trz b).length : Int)) (by omega) hq 0 0 0 0 0 0
        refine this.trans ?_
        rw [hval]
    · have ez : (-((trz b).length : Int) == 0) = false:=by
        have : ¬ (-((trz b).length : Int)) = 0:=by omega
        simpa using this
      rw [ez,cond_false]
      have hq : trz (lz (a ++ trz b)) = lz (a ++ trz b):=by
        refine zlr fun x hx => ?_
        have hrep:=zlu (a ++ trz b)
        have hlast : (a ++ trz b).getLast? = some x:=by
          rw [hrep,List.getLast?_append,hx]; rfl
        rw [List.getLast?_append] at hlast
        cases e : (trz b).getLast? with
        | none => simp at e; rw [e] at hz; simp at hz
        | some y =>
          rw [e] at hlast
          have hy : y = x:=by simpa using hlast
          rw [← hy]
          exact zed e
      have:=zgy n hn (negD s) _ hD (by omega) (-((trz b).length : Int)) (by omega) hq 0 0 0 0 0 0
      refine this.trans ?_
      rw [hval]
  · have e : ((lookR s).1 == 0) = false:=by simpa using h
    unfold parseR
    rw [if_neg h,e]
    rfl
end Go.AM
set_option linter.unusedVariables false
set_option linter.unusedSimpArgs false
namespace Go.AM
def checkR (neg : Bool) (c : Nat) (e : Int) : Int:=
  if c ≠ 0 ∧ (e < -18 ∨ e > 18) then 10 else if (valR neg (Lib.decDigits c) e).2.1 = 0 ∧ (valR neg (Lib.decDigits c) e).1 = (neg,(c : Int),e,()) then 0 else 21
theorem zuz (a b : DecD) : ((a.1 == b.1) && ((a.2.1 == b.2.1) && (a.2.2.1 == b.2.2.1))) = decide (a = b):=by
  obtain ⟨a1,a2,a3,_⟩:=a
  obtain ⟨b1,b2,b3,_⟩:=b
  by_cases h : (((a1,a2,a3,()) : DecD) = (b1,b2,b3,()))
  · have : a1 = b1 ∧ a2 = b2 ∧ a3 = b3:=by simpa using h
    rw [decide_eq_true h]
    simp [this]
  · rw [decide_eq_false h]
    have : ¬ (a1 = b1 ∧ a2 = b2 ∧ a3 = b3):=fun hh => h (by simp [hh])
    simp only [Bool.and_eq_false_iff,beq_eq_false_iff_ne]
    by_cases g1 : a1 = b1
    · by_cases g2 : a2 = b2
      · exact Or.inr (Or.inr fun g3 => this ⟨g1,g2,g3⟩)
      · exact Or.inr (Or.inl g2)
    · exact Or.inl g1
theorem zpk (neg : Bool) (c : Nat) (e : Int) (r : DecR) (hr : r = valR neg (Lib.decDigits c) e) :
    (bif !(r.2.1 == (0 : Int)) then some ((21 : Int)) else bif !((r.1.1 == neg) && ((r.1.2.1 == (c : Int)) && (r.1.2.2.1 == e))) then some ((21 : Int)) else some ((0 : Int)))
     = some (if (valR neg (Lib.decDigits c) e).2.1 = 0 ∧ (valR neg (Lib.decDigits c) e).1 = (neg,(c : Int),e,()) then 0 else 21):=by
  subst hr
  have hb:=zuz (valR neg (Lib.decDigits c) e).1 (neg,(c : Int),e,())
  simp only at hb
  rw [hb]
  by_cases h1 : (valR neg (Lib.decDigits c) e).2.1 = 0
  · have e1 : ((valR neg (Lib.decDigits c) e).2.1 == 0) = true:=by simp [h1]
    rw [e1]
    by_cases h2 : (valR neg (Lib.decDigits c) e).1 = (neg,(c : Int),e,())
    · rw [decide_eq_true h2,if_pos ⟨h1,h2⟩]; rfl
    · rw [decide_eq_false h2,if_neg (fun h => h2 h.2)]; rfl
  · have e1 : ((valR neg (Lib.decDigits c) e).2.1 == 0) = false:=by simpa using h1
    rw [e1,if_neg (fun h => h1 h.1)]; rfl
theorem zlx (n : Nat) (hn : 100 ≤ n) (neg : Bool) (c : Nat) (hc : c < two64) (e : Int) (he : -9223372036854775808 ≤ e ∧ e ≤ 9223372036854775807) : F.zbf n (neg,(c : Int),e,()) = some (checkR neg c e):=by
  unfold F.zbf checkR
  simp only [zdg n hn neg c hc e he,za]
  have T:=zpk neg c e _ rfl
  by_cases h0 : c = 0
  · have e0 : (((c : Int)) == 0) = true:=by simp [h0]
    rw [e0,if_neg (fun h => h.1 h0)]
    exact T
  · have e0 : (((c : Int)) == 0) = false:=by simpa using h0
    rw [e0]
    simp only [Bool.not_false,cond_true]
    by_cases h1 : e < -18
    · rw [zd h1,if_pos ⟨h0,Or.inl h1⟩]
    · rw [zg h1]
      by_cases h2 : e > 18
      · rw [zd h2,if_pos ⟨h0,Or.inr h2⟩]
      · rw [zg h2,if_neg (by omega)]
        exact T
theorem zc1 {c : Nat} (hc : c < two64) : (Lib.decDigits c).length ≤ 20:=by rw [zdf]; exact Lib.nDigits_le20 c hc
theorem zbx {neg : Bool} {c : Nat} {e : Int} (h : checkR neg c e = 0) : valR neg (Lib.decDigits c) e = ((neg,(c : Int),e,()),0,()) ∧ -18 ≤ e ∧ e ≤ 18:=by
  unfold checkR at h
  by_cases h1 : c ≠ 0 ∧ (e < -18 ∨ e > 18)
  · rw [if_pos h1] at h; cases h
  rw [if_neg h1] at h
  by_cases h2 : (valR neg (Lib.decDigits c) e).2.1 = 0 ∧ (valR neg (Lib.decDigits c) e).1 = (neg,(c : Int),e,())
  · have h3 : valR neg (Lib.decDigits c) e = ((neg,(c : Int),e,()),0,()):=by
      obtain ⟨a,b⟩:=h2
      generalize valR neg (Lib.decDigits c) e = r at a b ⊢
      obtain ⟨r1,r2,_⟩:=r
      simp only at a b
      rw [a,b]
    refine ⟨h3,?_⟩
    by_cases h0 : c = 0
    · subst h0
      unfold valR at h3
      rw [if_pos (zat 0)] at h3
      have : (0 : Int) = e:=congrArg (fun r : DecR => r.1.2.2.1) h3
      omega
    · omega
  · rw [if_neg h2] at h; cases h
def sgn (neg : Bool) : List UInt8:=if neg then [45] else []
def wideW (c : Nat) (e : Int) : List UInt8:=List.replicate (1 - e - (Lib.decDigits c).length).toNat 48 ++ Lib.decDigits c
def textD (neg : Bool) (c : Nat) (e : Int) : List UInt8:=
  if 0 ≤ e then sgn neg ++ (Lib.decDigits c ++ List.replicate e.toNat 48)
  else sgn neg ++ ((wideW c e).take ((wideW c e).length - e.natAbs) ++ [46] ++ (wideW c e).drop ((wideW c e).length - e.natAbs))
theorem zni (k : Nat) : Lib.repeatL [48] k = List.replicate k 48:=by
  induction k with
  | zero => rfl
  | succ k ih => rw [Lib.repeatL,ih]; rfl
theorem zju (n : Nat) {k : Int} (h : 0 ≤ k ∧ k ≤ 100000) : O.repeat' n [48] k = some (List.replicate k.toNat 48):=by
  unfold O.repeat'
  have hb : (decide (0 ≤ k) && Nat.ble k.toNat big47 && Nat.ble (([48] : List UInt8).length * k.toNat) big47) = true:=by
    rw [Bool.and_eq_true,Bool.and_eq_true,Nat.ble_eq,Nat.ble_eq]
    unfold big47
    simp only [List.length_cons,List.length_nil]
    refine ⟨⟨by simp; omega,by omega⟩,by omega⟩
  rw [hb,cond_true,zni]
theorem zfi (c : Nat) (hc : c < two64) (e : Int) (he : -18 ≤ e ∧ e < 0) : e.natAbs < (wideW c e).length ∧ (wideW c e).length ≤ 40 ∧ Digs (wideW c e):=by
  have:=zc1 hc
  unfold wideW
  refine ⟨?_,?_,zl.2 ⟨zal _,zaa c⟩⟩
  · simp; omega
  · simp; omega
theorem zu0 (n : Nat) (hn : 200000 ≤ n) (neg : Bool) (c : Nat) (hc : c < two64) (e : Int) (he : -9223372036854775808 ≤ e ∧ e ≤ 9223372036854775807) : F.zbb n (neg,(c : Int),e,()) = some (if checkR neg c e = 0 then (textD neg c e,0,()) else ([],checkR neg c e,())):=by
  unfold F.zbb
  simp only [zlx n (by omega) neg c hc e he,za]
  by_cases h : checkR neg c e = 0
  · obtain ⟨h1,h2,h3⟩:=zbx h
    have hl:=zc1 hc
    rw [h,if_pos rfl]
    have e0 : (!((0 : Int) == 0)) = false:=rfl
    rw [e0,cond_false]
    have hf : O.futoa n (c : Int) 10 = some (Lib.decDigits c):=by
      unfold O.futoa
      have : (decide ((0 : Int) ≤ (c : Int)) && decide ((c : Int) < 18446744073709551616) && decide ((10 : Int) = 10)) = true:=by
        rw [z7] at hc
        simp; omega
      rw [this]; rfl
    rw [hf,za]
    unfold textD
    by_cases hE : 0 ≤ e
    · rw [zd hE,if_pos hE,zju n (by omega),za,zd (by rw [zn]; simp; omega)]
      cases neg
      · rfl
      · rw [cond_true,zd (by rw [zn]; simp; omega)]
        rfl
    · obtain ⟨w1,w2,w3⟩:=zfi c hc e (by omega)
      have hmax : (if (IntKind.wrap .i64 ((IntKind.wrap .i64 ((1 : Int) - e)) - ((Lib.decDigits c).length : Int))) > (0 : Int) then (IntKind.wrap .i64 ((IntKind.wrap .i64 ((1 : Int) - e)) - ((Lib.decDigits c).length : Int))) else (0 : Int)) = (((1 - e - (Lib.decDigits c).length).toNat : Nat) : Int):=by
        rw [zi (x:=(1 : Int) - e) (by omega),zi (by omega)]
        split <;> omega
      have hwl : (List.replicate (1 - e - (Lib.decDigits c).length).toNat (48 : UInt8)).length + (Lib.decDigits c).length = (wideW c e).length:=by unfold wideW; simp
      rw [zg (by omega),if_neg hE,hmax,zju n (by omega),za,Int.toNat_natCast,zd (by rw [zn]; omega)]
      have hww : List.replicate (1 - e - (Lib.decDigits c).length).toNat (48 : UInt8) ++ Lib.decDigits c = wideW c e:=rfl
      rw [hww]
      generalize wideW c e = w at w1 w2 w3
      have hat : IntKind.wrap .i64 ((w.length : Int) + e) = ((w.length - e.natAbs : Nat) : Int):=by rw [zi (by omega)]; omega
      rw [hat]
      have s1 : sub w 0 ((w.length - e.natAbs : Nat) : Int) = some (w.take (w.length - e.natAbs)):=by
        have:=zz w 0 (w.length - e.natAbs) (by omega) (by omega)
        rw [List.drop_zero] at this
        exact this
      have s2 : sub w ((w.length - e.natAbs : Nat) : Int) (w.length : Int) = some (w.drop (w.length - e.natAbs)):=by
        have:=zz w (w.length - e.natAbs) w.length (by omega) (Nat.le_refl _)
        rw [List.take_length] at this
        exact this
      rw [s1,za,zd (by rw [zn]; simp; omega),s2,za,zd (by rw [zn]; simp; omega)]
      cases neg
      · rfl
      · rw [cond_true,zd (by rw [zn]; simp; omega)]
        rfl
  · have e0 : (checkR neg c e == 0) = false:=by simpa using h
    rw [e0,if_neg h]
    rfl
theorem zol (neg : Bool) {a : List UInt8} (ha : Digs a) (hne : a ≠ []) (t : List UInt8) : p0 (sgn neg ++ (a ++ t)) = (sgn neg).length ∧ negD (sgn neg ++ (a ++ t)) = neg:=by
  cases a with
  | nil => exact absurd rfl hne
  | cons b a =>
    obtain ⟨h1,_⟩:=zw.1 ha
    have hb : ¬ b = 45:=fun h => by subst h; simp [isDig] at h1
    unfold p0 negD
    cases neg
    · simp [sgn,hb]
    · simp [sgn]
theorem znj (neg : Bool) {a : List UInt8} (ha : Digs a) (hne : a ≠ []) : parseR (sgn neg ++ a) = outR (valR neg a 0):=by
  have hp:=zol neg ha hne []
  rw [List.append_nil] at hp
  obtain ⟨h0,hneg⟩:=hp
  have hlen : 0 < a.length:=List.length_pos_iff.2 hne
  have hd0 : (sgn neg ++ a).drop (sgn neg).length = a:=by rw [List.drop_left']; rfl
  have htw : tw a = a:=by
    have:=zfh ha (t:=[]) (by simp)
    rw [List.append_nil] at this
    exact this
  have h1 : p1q (sgn neg).length (sgn neg ++ a) = (sgn neg ++ a).length:=by unfold p1q; rw [hd0,htw,List.length_append]
  have hdr : (sgn neg ++ a).drop (sgn neg ++ a).length = []:=List.drop_length
  have hl : lookR (sgn neg ++ a) = (0,0,()):=by
    unfold lookR lookQ endR
    rw [h0,h1,hdr,if_neg (by simp),if_pos ⟨by rw [List.length_append]; omega,rfl⟩]
  have hb : behindD (sgn neg ++ a) = []:=by unfold behindD; rw [h0,h1,hdr]; rfl
  have hA : aheadD (sgn neg ++ a) = a:=by unfold aheadD; rw [h0,hd0,htw]
  unfold parseR
  rw [hl,if_pos rfl,hb,hA,hneg,List.append_nil]
  rfl
theorem znk (neg : Bool) {a b : List UInt8} (ha : Digs a) (hne : a ≠ []) (hb : Digs b) (hbn : b ≠ []) : parseR (sgn neg ++ (a ++ 46 :: b)) = outR (valR neg (a ++ b) (-(b.length : Int))):=by
  obtain ⟨h0,hneg⟩:=zol neg ha hne (46 :: b)
  have hlen : 0 < a.length:=List.length_pos_iff.2 hne
  have hlb : 0 < b.length:=List.length_pos_iff.2 hbn
  have hd0 : (sgn neg ++ (a ++ 46 :: b)).drop (sgn neg).length = a ++ 46 :: b:=by rw [List.drop_left']; rfl
  have htw : tw (a ++ 46 :: b) = a:=zfh ha (by simp [isDig])
  have h1 : p1q (sgn neg).length (sgn neg ++ (a ++ 46 :: b)) = (sgn neg).length + a.length:=by unfold p1q; rw [hd0,htw]
  have hdr : (sgn neg ++ (a ++ 46 :: b)).drop ((sgn neg).length + a.length) = 46 :: b:=by
    rw [← List.drop_drop,hd0,List.drop_left']; rfl
  have hdr2 : (sgn neg ++ (a ++ 46 :: b)).drop ((sgn neg).length + a.length + 1) = b:=by
    rw [← List.drop_drop,hdr]; rfl
  have htb : tw b = b:=by
    have:=zfh hb (t:=[]) (by simp)
    rw [List.append_nil] at this
    exact this
  have h3 : p3q (sgn neg).length (sgn neg ++ (a ++ 46 :: b)) = (sgn neg).length + a.length + 1 + b.length:=by unfold p3q; rw [h1,hdr2,htb]
  have hL : (sgn neg ++ (a ++ 46 :: b)).length = (sgn neg).length + a.length + 1 + b.length:=by simp; omega
  have hl : lookR (sgn neg ++ (a ++ 46 :: b)) = (0,0,()):=by
    unfold lookR lookQ endR
    rw [h0,h1,hdr,if_pos ⟨by omega,rfl⟩,h3,if_pos ⟨by omega,hL.symm⟩]
  have hB : behindD (sgn neg ++ (a ++ 46 :: b)) = b:=by unfold behindD; rw [h0,h1,hdr,if_pos (show (46 :: b).head? = some 46 from rfl),hdr2,htb]
  have hA : aheadD (sgn neg ++ (a ++ 46 :: b)) = a:=by unfold aheadD; rw [h0,hd0,htw]
  unfold parseR
  rw [hl,if_pos rfl,hB,hA,hneg]
theorem zu1 (neg : Bool) (c : Nat) (hc : c < two64) (e : Int) (he : -18 ≤ e ∧ e ≤ 18) : (textD neg c e).length ≤ 39 ∧ (0 ≤ e ∨ e < 0):=by
  have hl:=zc1 hc
  have hs : (sgn neg).length ≤ 1:=by cases neg <;> decide
  refine ⟨?_,by omega⟩
  unfold textD
  by_cases h : 0 ≤ e
  · rw [if_pos h]; simp; omega
  · rw [if_neg h]
    obtain ⟨w1,w2,w3⟩:=zfi c hc e (by omega)
    have : (wideW c e).length ≤ 20 ∨ (wideW c e).length = (1 - e).toNat:=by unfold wideW; simp; omega
    simp
    omega
theorem zee (neg : Bool) (c : Nat) (hc : c < two64) (e : Int) (h : checkR neg c e = 0) : parseR (textD neg c e) = ((neg,(c : Int),e,()),(0,0,()),()):=by
  obtain ⟨h1,h2,h3⟩:=zbx h
  have fin : outR (valR neg (Lib.decDigits c) e) = ((neg,(c : Int),e,()),(0,0,()),()):=by rw [h1]; rfl
  unfold textD
  by_cases hE : 0 ≤ e
  · rw [if_pos hE,znj neg (zl.2 ⟨zaa c,zal _⟩) (by simp [zde]),zbo _ (zaa c),← fin]
    congr 2
    omega
  · obtain ⟨w1,w2,w3⟩:=zfi c hc e (by omega)
    rw [if_neg hE]
    have hT : (wideW c e).take ((wideW c e).length - e.natAbs) ≠ []:=by
      intro hh
      have:=congrArg List.length hh
      simp at this
      omega
    have hD : (wideW c e).drop ((wideW c e).length - e.natAbs) ≠ []:=by
      intro hh
      have:=congrArg List.length hh
      simp at this
      omega
    rw [List.append_assoc,List.singleton_append,znk neg (zff _ w3) hT (zjo _ w3) hD,List.take_append_drop,← fin]
    have hlen : ((wideW c e).drop ((wideW c e).length - e.natAbs)).length = e.natAbs:=by simp; omega
    rw [hlen]
    have hv : valR neg (wideW c e) (-(e.natAbs : Int)) = valR neg (Lib.decDigits c) (-(e.natAbs : Int)):=zhw neg (zaa c) _ _
    rw [hv,show (-(e.natAbs : Int)) = e from by omega]
end Go.AM
set_option linter.unusedVariables false
set_option linter.unusedSimpArgs false
namespace Go.AM
theorem zly {α : Type} (b : Bool) (u v : α) : (bif b then some u else some v) = some (bif b then u else v):=by cases b <;> rfl
def btw (x lo hi : Int) : Bool:=decide (lo ≤ x) && decide (x ≤ hi)
def wordI (x : Int) : Bool:=btw x 65 90 || (btw x 97 122 || (x == 95 || (x == 46 || (x == 45 || btw x 48 57))))
def cls (c : Int) (b : UInt8) : Bool:=
  bif c == 3 then btw b.toNat 33 126 && (!((b.toNat : Int) == 44) && !((b.toNat : Int) == 124))
  else bif c == 2 then ((b.toNat : Int) == 47) || wordI b.toNat
  else bif c == 1 then wordI b.toNat
  else (c == 4) && btw b.toNat 48 57
def may (c : Int) : Bool:=decide (1 ≤ c) && decide (c ≤ 4)
theorem cls4 (b : UInt8) : cls 4 b = isDig b:=by
  unfold cls isDig btw
  simp
  congr 1 <;> simp only [decide_eq_decide] <;> omega
theorem zx0 (n : Nat) (c : Int) : F.zbm n c = some (may c):=by
  unfold F.zbm may
  by_cases h : 1 ≤ c
  · rw [zd (by omega)]; simp [h]
  · rw [zg (by omega)]; simp [h]
theorem zpl (n : Nat) (x lo hi : Int) : F.zad n x lo hi = some (btw x lo hi):=by
  unfold F.zad btw
  by_cases h : lo ≤ x
  · rw [zd (by omega)]; simp [h]
  · rw [zg (by omega)]; simp [h]
theorem zy4 (n : Nat) (c : Int) (b : UInt8) : F.zbp n c (b.toNat) = some (cls c b):=by
  unfold F.zbp cls wordI
  simp only [zpl,za,zly]
  congr 1
  cases c == 3 <;> cases c == 2 <;> cases c == 1 <;> cases c == 4 <;> generalize hx : (b.toNat : Int) = x <;> clear hx <;>
    (cases btw x 33 126 <;> cases x == 44 <;> cases btw x 65 90 <;> cases btw x 97 122 <;> cases x == 95 <;> cases x == 46 <;> cases x == 45 <;> cases x == 47 <;> rfl)
def badK (p : UInt8→Bool) : Nat→List UInt8→Int
  | _,[] => -1
  | k,b :: l => if p b then badK p (k + 1) l else (k : Int)
theorem zdx (p : UInt8→Bool) (k : Nat) (l : List UInt8) : 0 ≤ badK p k l ↔ ¬ l.all p = true:=by
  induction l generalizing k with
  | nil => simp [badK]
  | cons b l ih =>
    unfold badK
    by_cases h : p b = true
    · rw [if_pos h,ih]; simp [h]
    · rw [if_neg h]; simp [h]
theorem zlz (p : UInt8→Bool) (k : Nat) (l : List UInt8) (h : l.all p = true) : badK p k l = -1:=by
  induction l generalizing k with
  | nil => rfl
  | cons b l ih =>
    simp only [List.all_cons,Bool.and_eq_true] at h
    unfold badK
    rw [if_pos h.1,ih _ h.2]
theorem zx1 (p : UInt8→Bool) (k : Nat) (l : List UInt8) : badK p k l < k + l.length ∨ badK p k l = -1:=by
  induction l generalizing k with
  | nil => exact Or.inr rfl
  | cons b l ih =>
    unfold badK
    by_cases hb : p b = true
    · rw [if_pos hb]; have:=ih (k + 1); simp; omega
    · rw [if_neg hb]; simp; omega
theorem zl0 (n : Nat) (X : Type) (k0 : Unit→Option X) (kr : Int→Int→Option X) (c : Int) (s : List UInt8) (hs : s.length < 4611686018427387904) : ∀ (r : List UInt8) (k m : Nat),s.drop k = r→r.length < m →
    F.zae.L4 n k0 kr m c s (s.length : Int) (k : Int) = if 0 ≤ badK (cls c) k r then kr (badK (cls c) k r) 0 else k0 ():=by
  intro r
  induction r with
  | nil =>
    intro k m hk hm
    have:=zm hk
    cases m with
    | zero => simp at hm
    | succ m =>
      show F.zae.L4.step n _ k0 kr c s _ k = _
      unfold F.zae.L4.step
      rw [zg (by omega)]
      rfl
  | cons x r ih =>
    intro k m hk hm
    obtain ⟨h1,h2,h3⟩:=zk hk
    cases m with
    | zero => simp at hm
    | succ m =>
      show F.zae.L4.step n (F.zae.L4 n k0 kr m) k0 kr c s _ k = _
      unfold F.zae.L4.step
      rw [zd (by omega),zr,h2,za,zy4,za]
      unfold badK
      by_cases hx : cls c x = true
      · rw [hx,if_pos rfl,zh (by omega),ih (k + 1) m h3 (by simp at hm; omega)]
        rfl
      · have hx : cls c x = false:=by simpa using hx
        rw [hx]
        have : ¬ (false = true):=by simp
        rw [if_neg this,if_pos (by omega)]
        rfl
theorem zx2 (n : Nat) (c : Int) (s : List UInt8) (hs : s.length < 4611686018427387904) (hn : s.length < n) : F.zae n c s = some (bif may c then (badK (cls c) 0 s,0,()) else (0,1,())):=by
  unfold F.zae
  rw [zx0,za]
  cases hm : may c
  · rfl
  · simp only [Bool.not_true,cond_false]
    refine (zl0 n _ _ _ c s hs s 0 n rfl hn).trans ?_
    by_cases h : 0 ≤ badK (cls c) 0 s
    · rw [if_pos h]; rfl
    · rw [if_neg h]
      have : s.all (cls c) = true:=Classical.byContradiction fun hh => h ((zdx _ _ _).2 hh)
      rw [zlz _ _ _ this]; rfl
def textF (c : Int) (s : List UInt8) (lo hi : Int) : Int × Int × Unit:=
  if may c = false ∨ lo < 0 ∨ hi < lo then (1,0,()) else if (s.length : Int) < lo then (13,(s.length : Int),()) else if (s.length : Int) > hi then (12,hi,())
  else if 0 ≤ badK (cls c) 0 s then (14,badK (cls c) 0 s,()) else (0,0,())
theorem zbe (n : Nat) (c : Int) (s : List UInt8) (lo hi : Int) (hs : s.length < 4611686018427387904) (hn : s.length < n) : F.zan n c s lo hi = some (textF c s lo hi):=by
  unfold F.zan textF
  rw [zx2 n c s hs hn,za]
  cases hm : may c
  · rw [if_pos (Or.inl rfl)]; rfl
  · simp only [cond_true]
    have e : (!((0 : Int) == 0)) = false:=rfl
    rw [e,cond_false]
    by_cases h1 : lo < 0
    · rw [zd h1,if_pos (Or.inr (Or.inl h1))]
    · rw [zg h1]
      by_cases h2 : hi < lo
      · rw [zd h2,if_pos (Or.inr (Or.inr h2))]
      · rw [zg h2,if_neg (by simp [h1,h2])]
        by_cases h3 : (s.length : Int) < lo
        · rw [zd h3,if_pos h3]
        · rw [zg h3,if_neg h3]
          by_cases h4 : (s.length : Int) > hi
          · rw [zd h4,if_pos h4]
          · rw [zg h4,if_neg h4]
            by_cases h5 : 0 ≤ badK (cls c) 0 s
            · rw [zd (by omega),if_pos h5]
            · rw [zg (by omega),if_neg h5]
def bytesOf (c : Int) : List UInt8:=
  bif c == 1 then [65,66,67,68,69,70,71,72,73,74,75,76,77,78,79,80,81,82,83,84,85,86,87,88,89,90,97,98,99,100,101,102,103,104,105,106,107,108,109,110,111,112,113,114,115,116,117,118,119,120,121,122,48,49,50,51,52,53,54,55,56,57,95,46,45]
  else bif c == 2 then [65,66,67,68,69,70,71,72,73,74,75,76,77,78,79,80,81,82,83,84,85,86,87,88,89,90,97,98,99,100,101,102,103,104,105,106,107,108,109,110,111,112,113,114,115,116,117,118,119,120,121,122,48,49,50,51,52,53,54,55,56,57,95,46,45,47]
  else bif c == 3 then [65,66,67,68,69,70,71,72,73,74,75,76,77,78,79,80,81,82,83,84,85,86,87,88,89,90,97,98,99,100,101,102,103,104,105,106,107,108,109,110,111,112,113,114,115,116,117,118,119,120,121,122,48,49,50,51,52,53,54,55,56,57,95,46,45,47,33,34,35,36,37,38,39,40,41,42,43,58,59,60,61,62,63,64,91,92,93,94,96,123,125,126]
  else bif c == 4 then [48,49,50,51,52,53,54,55,56,57] else []
end Go.AM
set_option linter.unusedVariables false
set_option linter.unusedSimpArgs false
namespace Go.AM
def seg (c : UInt8) (s : List UInt8) : List UInt8:=s.takeWhile (· != c)
theorem zaq (c b : UInt8) (s : List UInt8) : seg c (b :: s) = if b = c then [] else b :: seg c s:=by
  unfold seg
  by_cases h : b = c
  · subst h; simp [List.takeWhile_cons]
  · simp [List.takeWhile_cons,h]
theorem zam (c : UInt8) (s : List UInt8) : (seg c s).length ≤ s.length:=(List.takeWhile_sublist _).length_le
theorem zom (c : UInt8) (s : List UInt8) : Lib.indexByte s c = if c ∈ s then ((seg c s).length : Int) else -1:=by
  induction s with
  | nil => simp [Lib.indexByte]
  | cons b s ih =>
    rw [zaq]
    simp only [Lib.indexByte,beq_iff_eq,List.mem_cons]
    by_cases h : b = c
    · subst h; simp
    · rw [if_neg h,ih]
      have h' : ¬ c = b:=fun hh => h hh.symm
      by_cases hm : c ∈ s
      · rw [if_pos hm,if_pos (Or.inr hm),if_neg h]
        rw [if_neg (by omega),List.length_cons]
        omega
      · rw [if_neg hm,if_pos rfl,if_neg (by simp [h',hm])]
theorem za7 {c : UInt8} {s : List UInt8} (h : c ∉ s) : seg c s = s:=by
  induction s with
  | nil => rfl
  | cons b s ih =>
    rw [zaq,if_neg (fun hh => h (by simp [hh])),ih (fun hh => h (by simp [hh]))]
theorem za6 {c : UInt8} {s : List UInt8} (h : c ∈ s) : (seg c s).length < s.length:=by
  induction s with
  | nil => simp at h
  | cons b s ih =>
    rw [zaq]
    by_cases hb : b = c
    · rw [if_pos hb]; simp
    · rw [if_neg hb]
      have : c ∈ s:=by
        rcases List.mem_cons.1 h with rfl | h
        · exact absurd rfl hb
        · exact h
      have:=ih this
      simp
      omega
theorem zl1 (c : UInt8) (s : List UInt8) : s.take (seg c s).length = seg c s:=by
  induction s with
  | nil => rfl
  | cons b s ih =>
    rw [zaq]
    by_cases hb : b = c
    · rw [if_pos hb]; rfl
    · rw [if_neg hb]; simp [ih]
theorem zby (n : Nat) (c : UInt8) {s : List UInt8} (hs : s.length ≤ 1000000) : F.zaa n s [c] = some (seg c s,(if c ∈ s then s.drop ((seg c s).length + 1) else []),decide (c ∈ s),()):=by
  unfold F.zaa F.za5 O.index1
  simp only [za]
  rw [zom]
  by_cases h : c ∈ s
  · have hl:=za6 h
    have s1 : sub s 0 ((seg c s).length : Int) = some (seg c s):=by
      have:=zz s 0 (seg c s).length (by omega) (by omega)
      rw [List.drop_zero,zl1] at this
      exact this
    have s2 : sub s (((seg c s).length + 1 : Nat) : Int) (s.length : Int) = some (s.drop ((seg c s).length + 1)):=by
      have:=zz s ((seg c s).length + 1) s.length (by omega) (Nat.le_refl _)
      rw [List.take_length] at this
      exact this
    have hw : IntKind.wrap .i64 (((seg c s).length : Int) + ((([c] : List UInt8).length : Nat) : Int)) = (((seg c s).length + 1 : Nat) : Int):=zh (by omega)
    simp only [h,if_true,decide_true]
    rw [zd (by omega),s1,za,hw,s2]
    rfl
  · simp only [h,if_false,decide_false]
    rw [zg (by omega),za7 h]
    rfl
theorem zbf {s : List UInt8} {p : Nat} (h : p ≤ s.length) : sub s (p : Int) (s.length : Int) = some (s.drop p):=by
  have:=zz s p s.length h (Nat.le_refl _)
  rw [List.take_length] at this
  exact this
def nextP (c : UInt8) (s : List UInt8) (p : Nat) : Nat:=p + (seg c (s.drop p)).length + (if c ∈ s.drop p then 1 else 0)
theorem zgz {c : UInt8} {s : List UInt8} {p : Nat} (h : p ≤ s.length) : nextP c s p ≤ s.length:=by
  unfold nextP
  by_cases hm : c ∈ s.drop p
  · have:=za6 hm
    simp at this
    rw [if_pos hm]; omega
  · have:=zam c (s.drop p)
    simp at this
    rw [if_neg hm]; omega
theorem zce {s : List UInt8} (h : (parseR s).2.1.1 = 0) : (parseR s).2.1.2.1 = 0:=by
  unfold parseR outR badR at h ⊢
  split
  · rename_i h1
    rw [if_pos h1] at h
    split
    · rfl
    · rename_i h2
      rw [if_neg h2] at h
      first | done | exact absurd h h2
  · rename_i h1
    rw [if_neg h1] at h
    exact absurd h h1
theorem zl2 {c : Int} {s : List UInt8} {lo hi : Int} (h : (textF c s lo hi).1 = 0) : (textF c s lo hi).2.1 = 0:=by
  unfold textF at h ⊢
  by_cases h1 : may c = false ∨ lo < 0 ∨ hi < lo
  · rw [if_pos h1]
  rw [if_neg h1] at h ⊢
  by_cases h2 : (s.length : Int) < lo
  · rw [if_pos h2] at h; cases h
  rw [if_neg h2] at h ⊢
  by_cases h3 : (s.length : Int) > hi
  · rw [if_pos h3] at h; cases h
  rw [if_neg h3] at h ⊢
  by_cases h4 : 0 ≤ badK (cls c) 0 s
  · rw [if_pos h4] at h; cases h
  rw [if_neg h4]
abbrev MetD:=List UInt8 × Int × List (Bool × Int × Int) × Int × List (List UInt8 × List UInt8) × Int × Unit
abbrev MetR:=MetD × FaultR × Unit
end Go.AM
set_option linter.unusedVariables false
set_option linter.unusedSimpArgs false
namespace Go.AM
end Go.AM
set_option linter.unusedVariables false
set_option linter.unusedSimpArgs false
namespace Go.AM
end Go.AM
set_option linter.unusedVariables false
set_option linter.unusedSimpArgs false
namespace Go.AM
abbrev DecL:=Bool × Int × Int
abbrev TagL:=List UInt8 × List UInt8
def DecLOK (d : DecL) : Prop:=True ∧ (0 ≤ d.2.1 ∧ d.2.1 ≤ 18446744073709551615) ∧ -9223372036854775808 ≤ d.2.2 ∧ d.2.2 ≤ 9223372036854775807
def decC (d : DecL) : Int:=checkR d.1 d.2.1.toNat d.2.2
theorem zaz {d : DecL} (h : DecLOK d) : ∃ (neg : Bool) (c : Nat) (e : Int),d = (neg,(c : Int),e) ∧ c < two64 ∧ -9223372036854775808 ≤ e ∧ e ≤ 9223372036854775807:=by
  obtain ⟨neg,c,e⟩:=d
  obtain ⟨_,⟨h1,h2⟩,h3,h4⟩:=h
  simp only at h1 h2 h3 h4
  refine ⟨neg,c.toNat,e,?_,?_,h3,h4⟩
  · rw [show ((c.toNat : Nat) : Int) = c from by omega]
  · rw [z7]; omega
theorem zu2 (n : Nat) (hn : 100 ≤ n) {d : DecL} (h : DecLOK d) : F.zbf n (d.1,d.2.1,d.2.2,()) = some (decC d):=by
  obtain ⟨neg,c,e,rfl,hc,he⟩:=zaz h
  exact zlx n hn neg c hc e he
def nameOK (s : List UInt8) : Bool:=(textF 1 s 1 200).1 == 0
def tagGood (t : TagL) : Bool:=((textF 2 t.1 1 64).1 == 0) && ((textF 3 t.2 0 100).1 == 0)
theorem zcp (c : Int) (s : List UInt8) (lo hi : Int) : (((textF c s lo hi).1 == 0) && ((textF c s lo hi).2.1 == 0)) = ((textF c s lo hi).1 == 0):=by
  by_cases h : (textF c s lo hi).1 = 0
  · rw [h,zl2 h]; rfl
  · rw [beq_eq_false_iff_ne.2 h]; rfl
def TagLOK (t : TagL) : Prop:=t.1.length ≤ 10000 ∧ t.2.length ≤ 10000
theorem ziq (n : Nat) (hn : 200000 ≤ n) {t : TagL} (h : TagLOK t) : F.zbe n (t.1,t.2,()) = some (bif tagGood t then 0 else 19):=by
  obtain ⟨h1,h2⟩:=h
  unfold F.zbe tagGood
  simp only [zbe n 2 t.1 1 64 (by omega) (by omega),zbe n 3 t.2 0 100 (by omega) (by omega),za,zcp]
  cases ((textF 2 t.1 1 64).1 == 0) <;> cases ((textF 3 t.2 0 100).1 == 0) <;> rfl
def kindB (k : Int) : Bool:=decide (1 ≤ k) && decide (k ≤ 5)
def valsB (vs : List DecL) : Bool:=decide (1 ≤ vs.length) && (decide (vs.length ≤ 64) && vs.all fun d => decC d == 0)
def rateB (k r : Int) : Bool:=decide (1 ≤ r) && (decide (r ≤ 1000000) && (!(k == 2) || r == 1000000))
def tagsB (ts : List TagL) : Bool:=decide (ts.length ≤ 32) && ts.all tagGood
def timeB (t : Int) : Bool:=decide (0 ≤ t) && decide (t ≤ 1099511627776)
def chkM (m : MetD) : Int:=
  bif !nameOK m.1 then 15 else bif !kindB m.2.1 then 16 else bif !valsB m.2.2.1 then 17 else bif !rateB m.2.1 m.2.2.2.1 then 18 else bif !tagsB m.2.2.2.2.1 then 19 else bif !timeB m.2.2.2.2.2.1 then 20 else 0
def MetOK (m : MetD) : Prop:=m.1.length ≤ 10000 ∧ (m.2.2.1.length ≤ 10000 ∧ ∀ d ∈ m.2.2.1,DecLOK d) ∧ (m.2.2.2.2.1.length ≤ 10000 ∧ ∀ t ∈ m.2.2.2.2.1,TagLOK t)
theorem zrr (n : Nat) (hn : 200000 ≤ n) (k0 : List UInt8→Int→List DecL→Int→List TagL→Int→Option Bool) (kr : Int→List UInt8→Int→List DecL→Int→List TagL→Int→Option Bool) (h0 : ∀ a b c d e f,k0 a b c d e f = some true) (hr : ∀ i a b c d e f,0 ≤ i→kr i a b c d e f = some false) (vs : List DecL) (hs : vs.length ≤ 10000) (hok : ∀ d ∈ vs,DecLOK d) (b0 : List UInt8) (b1 : Int) (b2 : List DecL) (b3 : Int) (b4 : List TagL) (b5 : Int) : ∀ (r : List DecL) (k m : Nat),vs.drop k = r→r.length < m →
    F.zj.L2_slices_IndexFunc_api_Dec_api_Dec n k0 kr m vs (vs.length : Int) (k : Int) b0 b1 b2 b3 b4 b5 = some (r.all fun d => decC d == 0):=by
  intro r
  induction r with
  | nil =>
    intro k m hk hm
    have:=zm hk
    cases m with
    | zero => simp at hm
    | succ m =>
      show F.zj.L2_slices_IndexFunc_api_Dec_api_Dec.step n _ k0 kr vs _ _ _ _ _ _ _ _ = _
      unfold F.zj.L2_slices_IndexFunc_api_Dec_api_Dec.step
      rw [zg (by omega),h0]
      rfl
  | cons x r ih =>
    intro k m hk hm
    obtain ⟨h1,h2,h3⟩:=zk hk
    have hx : DecLOK x:=hok x (List.mem_of_getElem? h2)
    cases m with
    | zero => simp at hm
    | succ m =>
      show F.zj.L2_slices_IndexFunc_api_Dec_api_Dec.step n (F.zj.L2_slices_IndexFunc_api_Dec_api_Dec n k0 kr m) k0 kr vs _ _ _ _ _ _ _ _ = _
      unfold F.zj.L2_slices_IndexFunc_api_Dec_api_Dec.step F.za3
      rw [zd (by omega),zr,h2]
      simp only [za,zu2 n (by omega) hx,List.all_cons]
      by_cases h : decC x = 0
      · rw [h,zh (by omega),ih (k + 1) m h3 (by simp at hm; omega)]; rfl
      · rw [beq_eq_false_iff_ne.2 h]
        simp [hr]
theorem zrs (n : Nat) (hn : 200000 ≤ n) (k0 : List UInt8→Int→List DecL→Int→List TagL→Int→Option Bool) (kr : Int→List UInt8→Int→List DecL→Int→List TagL→Int→Option Bool) (h0 : ∀ a b c d e f,k0 a b c d e f = some true) (hr : ∀ i a b c d e f,0 ≤ i→kr i a b c d e f = some false) (vs : List TagL) (hs : vs.length ≤ 10000) (hok : ∀ d ∈ vs,TagLOK d) (b0 : List UInt8) (b1 : Int) (b2 : List DecL) (b3 : Int) (b4 : List TagL) (b5 : Int) : ∀ (r : List TagL) (k m : Nat),vs.drop k = r→r.length < m →
    F.zn.L2_slices_IndexFunc_api_Tag_api_Tag n k0 kr m vs (vs.length : Int) (k : Int) b0 b1 b2 b3 b4 b5 = some (r.all tagGood):=by
  intro r
  induction r with
  | nil =>
    intro k m hk hm
    have:=zm hk
    cases m with
    | zero => simp at hm
    | succ m =>
      show F.zn.L2_slices_IndexFunc_api_Tag_api_Tag.step n _ k0 kr vs _ _ _ _ _ _ _ _ = _
      unfold F.zn.L2_slices_IndexFunc_api_Tag_api_Tag.step
      rw [zg (by omega),h0]
      rfl
  | cons x r ih =>
    intro k m hk hm
    obtain ⟨h1,h2,h3⟩:=zk hk
    have hx : TagLOK x:=hok x (List.mem_of_getElem? h2)
    cases m with
    | zero => simp at hm
    | succ m =>
      show F.zn.L2_slices_IndexFunc_api_Tag_api_Tag.step n (F.zn.L2_slices_IndexFunc_api_Tag_api_Tag n k0 kr m) k0 kr vs _ _ _ _ _ _ _ _ = _
      unfold F.zn.L2_slices_IndexFunc_api_Tag_api_Tag.step F.za6
      rw [zd (by omega),zr,h2]
      simp only [za,ziq n hn hx,List.all_cons]
      cases h : tagGood x
      · simp [hr]
      · rw [zh (by omega),ih (k + 1) m h3 (by simp at hm; omega)]; rfl
theorem zb7 (n : Nat) (x lo hi : Int) : F.zar n x lo hi = some (decide (lo ≤ x) && decide (x ≤ hi)):=by
  unfold F.zar
  by_cases h : lo ≤ x
  · rw [zd (by omega),decide_eq_true h]; rfl
  · rw [zg (by omega),decide_eq_false h]; rfl
theorem zrt (n : Nat) (m : MetD) (h : m.1.length ≤ 10000) (hn : 200000 ≤ n) : F.zaw n m = some (nameOK m.1):=by
  unfold F.zaw nameOK
  rw [zbe n 1 m.1 1 200 (by omega) (by omega),za,zcp]
theorem zru (n : Nat) (m : MetD) : F.zax n m = some (kindB m.2.1):=by
  unfold F.zax kindB
  rw [zb7]; rfl
theorem znl (n : Nat) (hn : 200000 ≤ n) (m : MetD) (hm : MetOK m) : F.zj n m = some (valsB m.2.2.1):=by
  unfold F.zj valsB
  have L:=zrr n hn (fun _ _ _ _ _ _ => some true) (fun e _ _ _ _ _ _ => some (!(decide (e ≥ (0 : Int))))) (fun _ _ _ _ _ _ => rfl) (fun i _ _ _ _ _ _ h => by simp [h]) _ hm.2.1.1 hm.2.1.2 m.1 m.2.1 m.2.2.1 m.2.2.2.1 m.2.2.2.2.1 m.2.2.2.2.2.1 m.2.2.1 0 n rfl (by have:=hm.2.1.1; omega)
  rw [show ((0 : Nat) : Int) = (0 : Int) from rfl] at L
  rw [zb7,za,L]
  have e1 : decide ((1 : Int) ≤ (m.2.2.1.length : Int)) = decide (1 ≤ m.2.2.1.length):=by apply decide_eq_decide.2; omega
  have e2 : decide ((m.2.2.1.length : Int) ≤ 64) = decide (m.2.2.1.length ≤ 64):=by apply decide_eq_decide.2; omega
  rw [e1,e2]
  cases decide (1 ≤ m.2.2.1.length) <;> cases decide (m.2.2.1.length ≤ 64) <;> rfl
theorem zrv (n : Nat) (m : MetD) : F.zay n m = some (rateB m.2.1 m.2.2.2.1):=by
  unfold F.zay rateB
  rw [zb7,za]
  cases decide ((1 : Int) ≤ m.2.2.2.1) <;> cases decide (m.2.2.2.1 ≤ 1000000) <;> cases (m.2.1 == 2) <;> rfl
theorem zrw (n : Nat) (hn : 200000 ≤ n) (m : MetD) (hm : MetOK m) : F.zn n m = some (tagsB m.2.2.2.2.1):=by
  unfold F.zn tagsB
  have L:=zrs n hn (fun _ _ _ _ _ _ => some true) (fun e _ _ _ _ _ _ => some (!(decide (e ≥ (0 : Int))))) (fun _ _ _ _ _ _ => rfl) (fun i _ _ _ _ _ _ h => by simp [h]) _ hm.2.2.1 hm.2.2.2 m.1 m.2.1 m.2.2.1 m.2.2.2.1 m.2.2.2.2.1 m.2.2.2.2.2.1 m.2.2.2.2.1 0 n rfl (by have:=hm.2.2.1; omega)
  rw [show ((0 : Nat) : Int) = (0 : Int) from rfl] at L
  rw [L]
  have e2 : decide ((m.2.2.2.2.1.length : Int) ≤ 32) = decide (m.2.2.2.2.1.length ≤ 32):=by apply decide_eq_decide.2; omega
  rw [e2]
  cases decide (m.2.2.2.2.1.length ≤ 32) <;> rfl
theorem zrx (n : Nat) (m : MetD) : F.zaz n m = some (timeB m.2.2.2.2.2.1):=by
  unfold F.zaz timeB
  rw [zb7]; rfl
theorem zb8 (n : Nat) (hn : 200000 ≤ n) (m : MetD) (hm : MetOK m) : F.zo n m = some (chkM m):=by
  unfold F.zo
  obtain ⟨q,hq⟩ : ∃ q,n = q + 7:=⟨n - 7,by omega⟩
  have l1:=zrt n m hm.1 hn
  have l2:=zru n m
  have l3:=znl n hn m hm
  have l4:=zrv n m
  have l5:=zrw n hn m hm
  have l6:=zrx n m
  obtain ⟨nm,k,vs,r,ts,t,_⟩:=m
  simp only at l1 l2 l3 l4 l5 l6
  have key : ∀ (X : Type) (k0 : (List UInt8)→Int→(List DecL)→Int→(List TagL)→Int→(List UInt8)→Int→(List DecL)→Int→(List TagL)→Int→Option X) (kr : Int→(List UInt8)→Int→(List DecL)→Int→(List TagL)→Int→(List UInt8)→Int→(List DecL)→Int→(List TagL)→Int→Option X),
      F.zo.L3 n k0 kr (q + 7) ((((nm,k,vs,r,ts,t,()),()),(())),(15 : Int),(((nm,k,vs,r,ts,t,()),()),(())),(16 : Int),(((nm,k,vs,r,ts,t,()),()),(())),(17 : Int),(((nm,k,vs,r,ts,t,()),()),(())),(18 : Int),(((nm,k,vs,r,ts,t,()),()),(())),(19 : Int),(((nm,k,vs,r,ts,t,()),()),(())),(20 : Int),()) 0 nm k vs r ts t nm k vs r ts t =
      (bif !nameOK nm then kr 15 nm k vs r ts t nm k vs r ts t else bif !kindB k then kr 16 nm k vs r ts t nm k vs r ts t else bif !valsB vs then kr 17 nm k vs r ts t nm k vs r ts t else bif !rateB k r then kr 18 nm k vs r ts t nm k vs r ts t
        else bif !tagsB ts then kr 19 nm k vs r ts t nm k vs r ts t else bif !timeB t then kr 20 nm k vs r ts t nm k vs r ts t else k0 nm k vs r ts t nm k vs r ts t):=by
    intro X k0 kr
    refine Eq.trans (b:=(F.zaw n (nm,k,vs,r,ts,t,())).bind fun y => bif !y then kr 15 nm k vs r ts t nm k vs r ts t else
      (F.zax n (nm,k,vs,r,ts,t,())).bind fun y => bif !y then kr 16 nm k vs r ts t nm k vs r ts t else
      (F.zj n (nm,k,vs,r,ts,t,())).bind fun y => bif !y then kr 17 nm k vs r ts t nm k vs r ts t else
      (F.zay n (nm,k,vs,r,ts,t,())).bind fun y => bif !y then kr 18 nm k vs r ts t nm k vs r ts t else
      (F.zn n (nm,k,vs,r,ts,t,())).bind fun y => bif !y then kr 19 nm k vs r ts t nm k vs r ts t else
      (F.zaz n (nm,k,vs,r,ts,t,())).bind fun y => bif !y then kr 20 nm k vs r ts t nm k vs r ts t else k0 nm k vs r ts t nm k vs r ts t) (by kernel_rfl) ?_
    rw [l1,l2,l3,l4,l5,l6]
    rfl
  rw [← hq] at key
  rw [key]
  unfold chkM
  simp only [zly]
end Go.AM
set_option linter.unusedVariables false
set_option linter.unusedSimpArgs false
namespace Go.AM
theorem zdh (s : List UInt8) : nameOK s = (s.all (cls 1) && (decide (1 ≤ s.length) && decide (s.length ≤ 200))):=by
  unfold nameOK textF
  rw [if_neg (by simp [may])]
  by_cases h1 : (s.length : Int) < 1
  · rw [if_pos h1]
    have : decide (1 ≤ s.length) = false:=decide_eq_false (by omega)
    rw [this]; simp
  rw [if_neg h1]
  have e1 : decide (1 ≤ s.length) = true:=decide_eq_true (by omega)
  by_cases h2 : (s.length : Int) > 200
  · rw [if_pos h2]
    have : decide (s.length ≤ 200) = false:=decide_eq_false (by omega)
    rw [this]; simp
  rw [if_neg h2]
  have e2 : decide (s.length ≤ 200) = true:=decide_eq_true (by omega)
  rw [e1,e2]
  by_cases h3 : 0 ≤ badK (cls 1) 0 s
  · rw [if_pos h3]
    have : s.all (cls 1) = false:=by
      have:=(zdx (cls 1) 0 s).1 h3
      simpa using this
    rw [this]; rfl
  · rw [if_neg h3]
    have : s.all (cls 1) = true:=Classical.byContradiction fun hh => h3 ((zdx _ _ _).2 hh)
    rw [this]; rfl
end Go.AM
set_option linter.unusedVariables false
set_option linter.unusedSimpArgs false
namespace Go.AM
end Go.AM
set_option linter.unusedVariables false
set_option linter.unusedSimpArgs false
namespace Go.AM
def bareM (m : MetD) : Bool:=decide (m.2.2.1.length = 1) && decide (m.2.2.2.2.1.length = 0)
def negM (m : MetD) : Bool:=match m.2.2.1 with | [] => false | d :: _ => d.1
def saysS (m : MetD) : Bool:=bareM m && ((m.2.2.2.2.2.1 == 0) && (!(m.2.1 == 5) && (!(m.2.1 == 2) || !negM m)))
def saysG (m : MetD) : Bool:=bareM m && (!(m.2.2.2.2.2.1 == 0) && (m.2.1 == 2))
def saysM (m : MetD) (f : Int) : Bool:=if f = 1 then saysS m else if f = 3 then saysG m else true
def expM (m : MetD) (f : Int) : Int:=if f < 1 ∨ f > 4 then 29 else if chkM m = 0 then (bif saysM m f then 0 else 26) else chkM m
theorem zx3 (l : List DecL) (k : Nat) : (((l.length : Nat) : Int) == ((k : Nat) : Int)) = decide (l.length = k):=by
  by_cases h : l.length = k
  · rw [h]; simp
  · rw [decide_eq_false h,beq_eq_false_iff_ne]; omega
theorem zu3 (l : List TagL) (k : Nat) : (((l.length : Nat) : Int) == ((k : Nat) : Int)) = decide (l.length = k):=by
  by_cases h : l.length = k
  · rw [h]; simp
  · rw [decide_eq_false h,beq_eq_false_iff_ne]; omega
theorem zon (n : Nat) (m : MetD) : F.zas n m = some (bareM m):=by
  have h1:=zx3 m.2.2.1 1
  have h2:=zu3 m.2.2.2.2.1 0
  unfold F.zas bareM
  rw [show (1 : Int) = ((1 : Nat) : Int) from rfl,show (0 : Int) = ((0 : Nat) : Int) from rfl,h1,h2]
  cases decide (m.2.2.1.length = 1) <;> rfl
theorem zx4 {m : MetD} (h : bareM m = true) : ∃ d,idx m.2.2.1 (0 : Int) = some d ∧ negM m = d.1:=by
  unfold bareM at h
  obtain ⟨nm,k,vs,r,ts,t,_⟩:=m
  match vs,h with
  | [d],_ => exact ⟨d,rfl,rfl⟩
theorem zry (n : Nat) (m : MetD) : F.zak n m = some (saysS m):=by
  unfold F.zak saysS
  have hb : F.zas n (m.1,m.2.1,m.2.2.1,m.2.2.2.1,m.2.2.2.2.1,m.2.2.2.2.2.1,()) = some (bareM m):=zon n m
  rw [hb,za]
  cases h : bareM m
  · rfl
  simp only [Bool.not_true,cond_false,Bool.true_and]
  obtain ⟨d,hd,hg⟩:=zx4 h
  rw [hd,hg]
  cases (m.2.2.2.2.2.1 == 0) <;> cases (m.2.1 == 5) <;> cases (m.2.1 == 2) <;> rfl
theorem zrz (n : Nat) (m : MetD) : F.zaf n m = some (saysG m):=by
  unfold F.zaf saysG
  have hb : F.zas n (m.1,m.2.1,m.2.2.1,m.2.2.2.1,m.2.2.2.2.1,m.2.2.2.2.2.1,()) = some (bareM m):=zon n m
  rw [hb,za]
  cases bareM m <;> cases (m.2.2.2.2.2.1 == 0) <;> rfl
theorem zir (n : Nat) (hn : 200000 ≤ n) (m : MetD) (hm : MetOK m) (f : Int) : F.zal n m f = some (expM m f):=by
  have hc : F.zo n (m.1,m.2.1,m.2.2.1,m.2.2.2.1,m.2.2.2.2.1,m.2.2.2.2.2.1,()) = some (chkM m):=zb8 n hn m hm
  have hs : F.zak n (m.1,m.2.1,m.2.2.1,m.2.2.2.1,m.2.2.2.2.1,m.2.2.2.2.2.1,()) = some (saysS m):=zry n m
  have hg : F.zaf n (m.1,m.2.1,m.2.2.1,m.2.2.2.1,m.2.2.2.2.1,m.2.2.2.2.2.1,()) = some (saysG m):=zrz n m
  unfold F.zal expM
  rw [hc,hs,hg]
  simp only [za]
  by_cases h : f < 1 ∨ f > 4
  · rw [if_pos h,beq_eq_false_iff_ne.2 (by omega : f ≠ 1),beq_eq_false_iff_ne.2 (by omega : f ≠ 2),beq_eq_false_iff_ne.2 (by omega : f ≠ 3),beq_eq_false_iff_ne.2 (by omega : f ≠ 4)]
    rfl
  rw [if_neg h]
  by_cases h0 : chkM m = 0
  · rw [if_pos h0,h0]
    rcases (by omega : f = 1 ∨ f = 2 ∨ f = 3 ∨ f = 4) with rfl | rfl | rfl | rfl
    · show (bif !saysS m then some 26 else some 0) = some (bif saysS m then 0 else 26)
      cases saysS m <;> rfl
    · rfl
    · show (bif !saysG m then some 26 else some 0) = some (bif saysG m then 0 else 26)
      cases saysG m <;> rfl
    · rfl
  · rw [if_neg h0,beq_eq_false_iff_ne.2 h0]
    rcases (by omega : f = 1 ∨ f = 2 ∨ f = 3 ∨ f = 4) with rfl | rfl | rfl | rfl <;> rfl
end Go.AM
set_option linter.unusedVariables false
set_option linter.unusedSimpArgs false
namespace Go.AM
end Go.AM
set_option linter.unusedVariables false
set_option linter.unusedSimpArgs false
namespace Go.AM
def MetWf (m : MetD) : Prop:=(∀ d ∈ m.2.2.1,DecLOK d)
def valL : List DecL→List UInt8
  | [] => []
  | d :: _ => textD d.1 d.2.1.toNat d.2.2
theorem zbp {m : MetD} (h : chkM m = 0) : nameOK m.1 = true ∧ kindB m.2.1 = true ∧ valsB m.2.2.1 = true ∧ rateB m.2.1 m.2.2.2.1 = true ∧ tagsB m.2.2.2.2.1 = true ∧ timeB m.2.2.2.2.2.1 = true:=by
  unfold chkM at h
  revert h
  cases nameOK m.1 <;> cases kindB m.2.1 <;> cases valsB m.2.2.1 <;> cases rateB m.2.1 m.2.2.2.1 <;> cases tagsB m.2.2.2.2.1 <;> cases timeB m.2.2.2.2.2.1 <;> simp
theorem zb5 {d : DecL} (hd : DecLOK d) (h : decC d = 0) : (textD d.1 d.2.1.toNat d.2.2).length ≤ 39:=by
  obtain ⟨neg,c,e,rfl,hc,he⟩:=zaz hd
  exact (zu1 neg c hc e (zbx h).2).1
theorem zef (n : Nat) (hn : 200000 ≤ n) {d : DecL} (hd : DecLOK d) (h : decC d = 0) : F.zbb n (d.1,d.2.1,d.2.2,()) = some (textD d.1 d.2.1.toNat d.2.2,0,()):=by
  obtain ⟨neg,c,e,rfl,hc,he⟩:=zaz hd
  have h' : checkR neg c e = 0:=h
  have:=zu0 n hn neg c hc e he
  rw [if_pos h'] at this
  exact this
end Go.AM
set_option linter.unusedVariables false
set_option linter.unusedSimpArgs false
namespace Go.AM
theorem zpm (n : Nat) (X : Type) (k0 : List UInt8→Int→List DecL→Int→List TagL→Int→Option X) (kr : Bool→List UInt8→Int→List DecL→Int→List TagL→Int→Option X) (vs : List TagL) (hs : vs.length ≤ 140737488351232) (b0 : List UInt8) (b1 : Int) (b2 : List DecL) (b3 : Int) (b5 : Int) : ∀ (j k m : Nat),k + j = 51→j < m →
    F.zu.L2 n k0 kr m (k : Int) b0 b1 b2 b3 vs b5 = bif ((vs.drop k).take j).all (fun t => decide (t.1.length ≤ 200) && decide (t.2.length ≤ 200)) then k0 b0 b1 b2 b3 vs b5 else kr false b0 b1 b2 b3 vs b5:=by
  intro j
  induction j with
  | zero =>
    intro k m hk hm
    obtain ⟨m,rfl⟩ : ∃ q,m = q + 1:=⟨m - 1,by omega⟩
    show F.zu.L2.step n (F.zu.L2 n k0 kr m) k0 kr _ _ _ _ _ _ _ = _
    unfold F.zu.L2.step
    rw [zg (by omega : ¬ (k : Int) < 51)]
    by_cases h : (k : Int) < (vs.length : Int)
    · rw [zd h]; rfl
    · rw [zg h]; rfl
  | succ j ih =>
    intro k m hk hm
    obtain ⟨m,rfl⟩ : ∃ q,m = q + 1:=⟨m - 1,by omega⟩
    show F.zu.L2.step n (F.zu.L2 n k0 kr m) k0 kr _ _ _ _ _ _ _ = _
    unfold F.zu.L2.step
    rw [zd (by omega : (k : Int) < 51)]
    by_cases h : k < vs.length
    · rw [zd (by omega),zcc h]
      have hd : vs.drop k = vs[k] :: vs.drop (k + 1):=List.drop_eq_getElem_cons h
      simp only [za,hd,List.take_succ_cons,List.all_cons]
      rw [zh (by omega),ih (k + 1) m (by omega) (by omega)]
      by_cases h1 : vs[k].1.length ≤ 200
      · rw [zg (by omega),decide_eq_true h1]
        by_cases h2 : vs[k].2.length ≤ 200
        · rw [zg (by omega),decide_eq_true h2]; rfl
        · rw [zd (by omega),decide_eq_false h2]; rfl
      · rw [zd (by omega),decide_eq_false h1]; rfl
    · rw [zg (by omega),List.drop_eq_nil_of_le (by omega)]; rfl
def smallB (m : MetD) : Bool:=(m.2.2.2.2.1.take 51).all (fun t => decide (t.1.length ≤ 200) && decide (t.2.length ≤ 200)) && (decide (m.1.length ≤ 300) && (decide (m.2.2.1.length ≤ 80) && decide (m.2.2.2.2.1.length ≤ 50)))
theorem zu4 (n : Nat) (hn : 200000 ≤ n) (m : MetD) (hs : m.2.2.2.2.1.length ≤ 140737488351232) : F.zu n m = some (smallB m):=by
  obtain ⟨nm,k,vs,r,ts,t,_⟩:=m
  simp only at hs
  unfold F.zu smallB
  refine (zpm n Bool _ _ ts hs nm k vs r t 51 0 n (by omega) (by omega)).trans ?_
  rw [List.drop_zero]
  simp only
  cases (ts.take 51).all (fun t => decide (t.1.length ≤ 200) && decide (t.2.length ≤ 200))
  · rfl
  · rw [cond_true]
    have e1 : decide ((nm.length : Int) ≤ 300) = decide (nm.length ≤ 300):=by apply decide_eq_decide.2; omega
    have e2 : decide ((vs.length : Int) ≤ 80) = decide (vs.length ≤ 80):=by apply decide_eq_decide.2; omega
    have e3 : decide ((ts.length : Int) ≤ 50) = decide (ts.length ≤ 50):=by apply decide_eq_decide.2; omega
    rw [e1,e2,e3]
    cases decide (nm.length ≤ 300) <;> cases decide (vs.length ≤ 80) <;> rfl
theorem zu5 {m : MetD} (hw : MetWf m) (h : smallB m = true) : MetOK m ∧ m.1.length ≤ 300:=by
  unfold smallB at h
  simp only [Bool.and_eq_true,decide_eq_true_eq] at h
  obtain ⟨h1,h2,h3,h4⟩:=h
  refine ⟨⟨by omega,⟨by omega,hw⟩,by omega,fun t ht => ?_⟩,h2⟩
  rw [List.take_of_length_le (by omega)] at h1
  have:=List.all_eq_true.1 h1 t ht
  simp only [Bool.and_eq_true,decide_eq_true_eq] at this
  exact ⟨by omega,by omega⟩
end Go.AM
set_option linter.unusedVariables false
set_option linter.unusedSimpArgs false
namespace Go.AM
abbrev NumR:=Int × (Int × Int × Unit) × Unit
def numR (v c at' : Int) : NumR:=(v,(c,at',()),())
theorem zu6 : cls 4 = isDig:=funext cls4
theorem zu7 (n : Nat) (c a : Int) : F.zac n c a = some (0,(c,a,()),()):=rfl
theorem zb9 {s : List UInt8} {k : Nat} (h : ¬ 0 ≤ badK isDig k s) : Digs s:=Classical.byContradiction fun hh => h ((zdx _ _ _).2 hh)
theorem zgi {s : List UInt8} {k : Nat} (h : Digs s) : badK isDig k s = -1:=zlz _ _ _ h
theorem textF4 (s : List UInt8) (hs : s.length < 4611686018427387904) : textF 4 s 1 (IntKind.wrap .i64 ((s.length : Int) + 1)) = if s = [] then (13,0,()) else if 0 ≤ badK isDig 0 s then (14,badK isDig 0 s,()) else (0,0,()):=by
  unfold textF
  rw [zh hs,zu6]
  have hm : may 4 = true:=rfl
  rw [if_neg (by simp [hm]; omega)]
  cases s with
  | nil => rfl
  | cons b s =>
    rw [if_neg (show ¬ (((b :: s).length : Nat) : Int) < 1 from by simp; omega),if_neg (show ¬ (((b :: s).length : Nat) : Int) > (((b :: s).length + 1 : Nat) : Int) from by omega),if_neg (show ¬ (b :: s = []) from by simp)]
end Go.AM
set_option linter.unusedVariables false
set_option linter.unusedSimpArgs false
namespace Go.AM
def pad6 (k : Nat) : List UInt8:=(Lib.decDigits (1000000 + k)).drop 1
theorem za0 {k : Nat} (h : k < 1000000) : Lib.decDigits (1000000 + k) = 49 :: pad6 k ∧ (pad6 k).length = 6 ∧ Digs (pad6 k) ∧ val (pad6 k) = k:=by
  have hN : (Lib.decDigits (1000000 + k)).length = 7:=by rw [zdf]; exact Lib.nDigits_unique 6 _ (by omega) (by omega)
  have hd:=zaa (1000000 + k)
  have hv:=zat (1000000 + k)
  unfold pad6
  cases e : Lib.decDigits (1000000 + k) with
  | nil => rw [e] at hN; simp at hN
  | cons b r =>
    rw [e] at hN hd hv
    have hr : r.length = 6:=by simpa using hN
    obtain ⟨d1,d2⟩:=zw.1 hd
    have:=zc0 d2
    rw [hr] at this
    rw [zaf,hr] at hv
    have hb : dv b = 1:=by omega
    have : b = 49:=zdw d1 rfl hb
    subst this
    refine ⟨rfl,hr,d2,?_⟩
    show val r = k
    omega
def rateText (k : Int) : List UInt8 × Int × Unit:=
  if k < 1 ∨ k > 1000000 then ([],10,()) else if k = 1000000 then ([49],0,()) else ([48,46] ++ trz (pad6 k.toNat),0,())
theorem zfj (n : Nat) (k : Int) : F.za8 n k = some (rateText k):=by
  unfold F.za8 rateText
  by_cases h1 : k < 1
  · rw [zd h1,if_pos (Or.inl h1)]
  rw [zg h1]
  by_cases h2 : k > 1000000
  · rw [zd h2,if_pos (Or.inr h2)]
  rw [zg h2,if_neg (by omega)]
  by_cases h3 : k = 1000000
  · subst h3; rfl
  have e3 : (k == 1000000) = false:=by simpa using h3
  rw [e3,cond_false,if_neg h3,zi (by omega)]
  obtain ⟨p1,p2,p3,p4⟩:=za0 (k:=k.toNat) (by omega)
  have hi : O.itoa n (1000000 + k) = some (49 :: pad6 k.toNat):=by
    unfold O.itoa
    have : (decide (-9223372036854775808 ≤ 1000000 + k) && decide (1000000 + k ≤ 9223372036854775807)) = true:=by simp; omega
    rw [this,cond_true]
    unfold Lib.itoa
    rw [if_neg (by omega),show (1000000 + k).toNat = 1000000 + k.toNat from by omega,p1]
  rw [hi,za]
  have hsub : sub (49 :: pad6 k.toNat) 1 (((49 :: pad6 k.toNat).length : Nat) : Int) = some (pad6 k.toNat):=by
    have:=zz (49 :: pad6 k.toNat) 1 (49 :: pad6 k.toNat).length (by simp) (by simp)
    rw [List.take_length] at this
    exact this
  rw [hsub,za]
  unfold O.trimR
  have hb : (Nat.blt (48 : UInt8).toNat 128 && Nat.ble (pad6 k.toNat).length big47) = true:=by rw [p2]; rfl
  simp only [hb,cond_true,za,zjp]
  rw [zd]
  have:=zcd (pad6 k.toNat)
  rw [zn]
  omega
def rateR (s : List UInt8) : NumR:=
  if s = [49] then numR 1000000 0 0 else if s = [] then numR 0 13 0 else if s.head? ≠ some 48 then numR 0 11 0 else if (s.drop 1).head? ≠ some 46 then numR 0 11 1
  else if s.drop 2 = [] then numR 0 13 2 else if 0 ≤ badK isDig 0 (s.drop 2) then numR 0 14 (2 + badK isDig 0 (s.drop 2)) else if 6 < (s.drop 2).length then numR 0 12 8
  else if val (s.drop 2) = 0 then numR 0 10 0 else numR ((val (s.drop 2) * 10 ^ (6 - (s.drop 2).length) : Nat) : Int) 0 0
theorem zis (n : Nat) (X : Type) (k3 : Int→Int→Int→Int→Int→Int→Int→Option X) (d : List UInt8) (hd : Digs d) (hl : d.length ≤ 6) (a b c e f g : Int) : ∀ (j i m : Nat),i + j = 6→j < m →
    F.zq.L23 n k3 m d (i : Int) a b c e f g (val ((d ++ List.replicate (6 - d.length) 48).take i) : Int) = k3 a b c e f g ((val d * 10 ^ (6 - d.length) : Nat) : Int):=by
  have hD : Digs (d ++ List.replicate (6 - d.length) 48):=zl.2 ⟨hd,zal _⟩
  have hL : (d ++ List.replicate (6 - d.length) (48 : UInt8)).length = 6:=by simp; omega
  intro j
  induction j with
  | zero =>
    intro i m hi hm
    cases m with
    | zero => omega
    | succ m =>
      show F.zq.L23.step n _ k3 d _ _ _ _ _ _ _ _ = _
      unfold F.zq.L23.step
      rw [zg (by omega),List.take_of_length_le (by omega),zab]
  | succ j ih =>
    intro i m hi hm
    cases m with
    | zero => omega
    | succ m =>
      show F.zq.L23.step n (F.zq.L23 n k3 m) k3 d _ _ _ _ _ _ _ _ = _
      unfold F.zq.L23.step
      rw [zd (by omega),zh (by omega)]
      have hb : val ((d ++ List.replicate (6 - d.length) 48).take i) < 10 ^ i:=by
        have:=zc0 (zff i hD)
        rw [List.length_take,hL,Nat.min_eq_left (by omega)] at this
        exact this
      have hp : (10 : Nat) ^ i ≤ 10 ^ 6:=Nat.pow_le_pow_right (by omega) (by omega)
      have hstep : ∀ x,(d ++ List.replicate (6 - d.length) (48 : UInt8))[i]? = some x→val ((d ++ List.replicate (6 - d.length) 48).take (i + 1)) = val ((d ++ List.replicate (6 - d.length) 48).take i) * 10 + dv x:=by
        intro x hx
        rw [List.take_add_one,hx]
        exact zec _ _
      by_cases hlt : i < d.length
      · have hx : (d ++ List.replicate (6 - d.length) (48 : UInt8))[i]? = d[i]?:=List.getElem?_append_left hlt
        rw [zd (by omega),zcc hlt,za]
        have hg : d[i]? = some d[i]:=by simp [hlt]
        have hdx:=List.all_eq_true.1 hd d[i] (List.getElem_mem hlt)
        have hdi:=zaj.1 hdx
        have hv:=hstep d[i] (hx.trans hg)
        have hdl:=zkk hdx
        have h8 : IntKind.wrap .i64 (IntKind.wrap .u8 ((d[i].toNat : Int) - 48)) = (dv d[i] : Int):=by
          rw [IntWalk.u8_in _ (by omega),zi (by omega)]; unfold dv; omega
        rw [h8,zi (x:=10 * _) (by omega),zi (by omega),show 10 * (val ((d ++ List.replicate (6 - d.length) (48 : UInt8)).take i) : Int) + (dv d[i] : Int) = (val ((d ++ List.replicate (6 - d.length) (48 : UInt8)).take (i + 1)) : Int) from by omega]
        exact ih (i + 1) m (by omega) (by omega)
      · have hx : (d ++ List.replicate (6 - d.length) (48 : UInt8))[i]? = some 48:=by
          rw [List.getElem?_append_right (by omega),List.getElem?_replicate,if_pos (by omega)]
        have hv:=hstep 48 hx
        rw [zpg] at hv
        rw [zg (by omega),zi (x:=10 * _) (by omega),zi (by omega),show 10 * (val ((d ++ List.replicate (6 - d.length) (48 : UInt8)).take i) : Int) + 0 = (val ((d ++ List.replicate (6 - d.length) (48 : UInt8)).take (i + 1)) : Int) from by omega]
        exact ih (i + 1) m (by omega) (by omega)
theorem zit (n : Nat) (X : Type) (k0 : List UInt8→Int→Int→Int→Int→Option X) (s : List UInt8) (m : Nat) (hm : 3 ≤ m) :
    F.zq.L5 n k0 m s (48,46,()) 0 0 0 0 0 = if s = [] then k0 s 0 0 13 0 else if s.head? ≠ some 48 then k0 s 0 0 11 0 else if (s.drop 1).head? ≠ some 46 then k0 s 0 0 11 1 else k0 s 0 0 0 0:=by
  obtain ⟨m,rfl⟩ : ∃ q,m = q + 3:=⟨m - 3,by omega⟩
  show F.zq.L5.step n (F.zq.L5 n k0 (m + 2)) k0 s _ _ _ _ _ _ = _
  have hb : ∀ (b c : UInt8),((b.toNat : Int) == (c.toNat : Int)) = decide (b = c):=by
    intro b c
    by_cases h : b = c
    · simp [h]
    · have : ¬ (b.toNat : Int) = (c.toNat : Int):=fun hh => h (zlo (by omega))
      simp [h,this]
  cases s with
  | nil => rfl
  | cons b r =>
    have e48 : ((b.toNat : Int) == 48) = decide (b = 48):=hb b 48
    unfold F.zq.L5.step
    have a1 : decide ((0 : Int) < 2) = true:=rfl
    have a2 : ((0 : Int) == 0) = true:=rfl
    have a3 : ((0 : Int) == (((b :: r).length : Nat) : Int)) = false:=by
      have : ¬ (0 : Int) = (((b :: r).length : Nat) : Int):=by simp; omega
      simpa using this
    have a4 : decide ((0 : Int) ≥ (((b :: r).length : Nat) : Int)) = false:=by
      have : ¬ (0 : Int) ≥ (((b :: r).length : Nat) : Int):=by simp only [List.length_cons]; omega
      exact decide_eq_false this
    have a5 : idx (b :: r) (0 : Int) = some b:=rfl
    rw [a1,a2,a3,a4,a5,cond_true,cond_true,cond_false,cond_false,za,e48]
    by_cases h1 : b = 48
    · subst h1
      simp only [decide_true,Bool.not_true,cond_false]
      show F.zq.L5.step n (F.zq.L5 n k0 (m + 1)) k0 _ _ 1 _ _ _ _ = _
      unfold F.zq.L5.step
      have c1 : decide ((1 : Int) < 2) = true:=rfl
      have c2 : ((1 : Int) == 0) = false:=rfl
      have c3 : ((1 : Int) == 1) = true:=rfl
      rw [c1,c2,c3,cond_true,cond_false,cond_true]
      cases r with
      | nil => rfl
      | cons c r =>
        have e46 : ((c.toNat : Int) == 46) = decide (c = 46):=hb c 46
        have b3 : ((1 : Int) == (((48 :: c :: r).length : Nat) : Int)) = false:=by
          have : ¬ (1 : Int) = (((48 :: c :: r).length : Nat) : Int):=by simp; omega
          simpa using this
        have b4 : decide ((1 : Int) ≥ (((48 :: c :: r).length : Nat) : Int)) = false:=by
          have : ¬ (1 : Int) ≥ (((48 :: c :: r).length : Nat) : Int):=by simp; omega
          simpa using this
        have b5 : idx (48 :: c :: r) (1 : Int) = some c:=rfl
        rw [b3,b4,b5,cond_false,cond_false,za,e46]
        by_cases h2 : c = 46
        · subst h2
          rfl
        · simp [h2]
    · simp [h1]
theorem zl3 (n : Nat) (hn : 100 ≤ n) (s : List UInt8) (hs : s.length ≤ 1000000) (hl : s.length < n) : F.zq n s = some (rateR s):=by
  unfold F.zq rateR
  by_cases h1 : s = [49]
  · rw [if_pos h1,h1]; rfl
  have e1 : (s == [49]) = false:=by simpa using h1
  rw [e1,cond_false,if_neg h1,zit n _ _ s n (by omega)]
  by_cases h2 : s = []
  · rw [if_pos h2,if_pos h2]; rfl
  rw [if_neg h2,if_neg h2]
  by_cases h3 : s.head? ≠ some 48
  · rw [if_pos h3,if_pos h3]; rfl
  rw [if_neg h3,if_neg h3]
  by_cases h4 : (s.drop 1).head? ≠ some 46
  · rw [if_pos h4,if_pos h4]; rfl
  rw [if_neg h4,if_neg h4]
  have e2 : (!((0 : Int) == 0 && (0 : Int) == 0)) = false:=rfl
  simp only [e2,cond_false]
  have hlen : 2 ≤ s.length:=by
    cases s with
    | nil => exact absurd rfl h2
    | cons b r => cases r with
      | nil => simp at h4
      | cons => simp
  have hsub : sub s 2 (s.length : Int) = some (s.drop 2):=by
    have:=zz s 2 s.length hlen (Nat.le_refl _)
    rw [List.take_length] at this
    exact this
  have hdl : (s.drop 2).length + 2 = s.length:=by simp; omega
  rw [hsub,za,zbe n 4 _ _ _ (by omega) (by omega),za,textF4 _ (by omega)]
  generalize s.drop 2 = d at hdl ⊢
  by_cases h5 : d = []
  · rw [if_pos h5,if_pos h5]; rfl
  rw [if_neg h5,if_neg h5]
  by_cases h6 : 0 ≤ badK isDig 0 d
  · rw [if_pos h6,if_pos h6]
    have:=zx1 isDig 0 d
    have e : (!((14 : Int) == 0 && badK isDig 0 d == 0)) = true:=rfl
    simp only [e,cond_true,zu7,za]
    rw [zi (by omega)]
    rfl
  rw [if_neg h6,if_neg h6]
  simp only [e2,cond_false]
  have hd:=zb9 h6
  by_cases h7 : 6 < d.length
  · rw [zd (by omega),if_pos h7]; rfl
  rw [zg (by omega),if_neg h7]
  have:=zis n _ (fun e12_b0_0 e12_b0_1 e12_b1_0 e12_b1_1 e12_b2_0 e12_b2_1 e12_b3_0 =>
                    bif e12_b3_0 == (0 : Int) then
                      (F.zac n (10 : Int) (0 : Int)).bind fun y13 =>
                        some ((y13.1,(y13.2.1.1,y13.2.1.2.1,()),()))
                    else
                      some ((e12_b3_0,((0 : Int),(0 : Int),()),()))) d hd (by omega) 0 0 0 0 0 0 6 0 n (by omega) (by omega)
  refine this.trans ?_
  have hpp : 0 < 10 ^ (6 - d.length):=Nat.pow_pos (by omega)
  by_cases h8 : val d = 0
  · rw [if_pos h8,h8,Nat.zero_mul]; rfl
  · rw [if_neg h8]
    have : ¬ ((val d * 10 ^ (6 - d.length) : Nat) : Int) = 0:=by
      have:=Nat.mul_pos (Nat.pos_of_ne_zero h8) hpp
      omega
    have e : (((val d * 10 ^ (6 - d.length) : Nat) : Int) == 0) = false:=by simpa using this
    rw [e,cond_false]
    rfl
end Go.AM
set_option linter.unusedVariables false
set_option linter.unusedSimpArgs false
namespace Go.AM
theorem zjv (d : List UInt8) : rateR (48 :: 46 :: d) = if d = [] then numR 0 13 2 else if 0 ≤ badK isDig 0 d then numR 0 14 (2 + badK isDig 0 d) else if 6 < d.length then numR 0 12 8
    else if val d = 0 then numR 0 10 0 else numR ((val d * 10 ^ (6 - d.length) : Nat) : Int) 0 0:=by
  unfold rateR
  rw [if_neg (by simp),if_neg (by simp),if_neg (by simp),if_neg (by simp)]
  rfl
theorem zjw (k : Int) (hk : 1 ≤ k ∧ k < 1000000) (z : Nat) : rateR (48 :: 46 :: (trz (pad6 k.toNat) ++ List.replicate z 48)) = if (trz (pad6 k.toNat)).length + z ≤ 6 then numR k 0 0 else numR 0 12 8:=by
  obtain ⟨p1,p2,p3,p4⟩:=za0 (k:=k.toNat) (by omega)
  have hd : Digs (trz (pad6 k.toNat) ++ List.replicate z 48):=zl.2 ⟨zbc p3,zal _⟩
  have hne : trz (pad6 k.toNat) ≠ []:=fun hh => by have:=(zin p3).1 hh; omega
  have hlen : (trz (pad6 k.toNat) ++ List.replicate z (48 : UInt8)).length = (trz (pad6 k.toNat)).length + z:=by simp
  rw [zjv,if_neg (by simp [hne]),if_neg (by rw [zgi hd]; omega),hlen]
  have hpad:=zb4 (pad6 k.toNat)
  have hv : val (trz (pad6 k.toNat)) * 10 ^ (6 - (trz (pad6 k.toNat)).length) = k.toNat:=by
    rw [p2] at hpad
    have:=congrArg val hpad
    rw [zab,p4] at this
    exact this.symm
  have hv0 : ¬ val (trz (pad6 k.toNat)) = 0:=fun h => by rw [h] at hv; omega
  have hle:=zcd (pad6 k.toNat)
  by_cases h : (trz (pad6 k.toNat)).length + z ≤ 6
  · rw [if_neg (by omega),if_pos h,zab]
    have hp : 0 < 10 ^ z:=Nat.pow_pos (by omega)
    rw [if_neg (by have:=Nat.mul_pos (Nat.pos_of_ne_zero hv0) hp; omega),Nat.mul_assoc,← Nat.pow_add,show z + (6 - ((trz (pad6 k.toNat)).length + z)) = 6 - (trz (pad6 k.toNat)).length from by omega,hv]
    rw [show ((k.toNat : Nat) : Int) = k from by omega]
  · rw [if_pos (by omega),if_neg h]
theorem zai {k : Int} (hk : 1 ≤ k ∧ k < 1000000) : rateText k = (48 :: 46 :: trz (pad6 k.toNat),0,()):=by
  unfold rateText
  rw [if_neg (by omega),if_neg (by omega)]; rfl
theorem zf1 {s : List UInt8} (h : (rateR s).2.1.1 = 0) : (rateR s).2.1.2.1 = 0 ∧ 1 ≤ (rateR s).1 ∧ (rateR s).1 ≤ 1000000 ∧ (rateText (rateR s).1).2.1 = 0 ∧
    ∃ a j,s = a ++ List.replicate j 48 ∧ (rateText (rateR s).1).1 = a ∧ a ≠ [] ∧ (∀ x,a.getLast? = some x→x ≠ 48):=by
  by_cases h1 : s = [49]
  · subst h1
    exact ⟨rfl,by decide,by decide,rfl,[49],0,rfl,rfl,by simp,by simp⟩
  have e:=h
  unfold rateR at e
  rw [if_neg h1] at e
  by_cases h2 : s = []
  · rw [if_pos h2] at e; cases e
  rw [if_neg h2] at e
  by_cases h3 : s.head? ≠ some 48
  · rw [if_pos h3] at e; cases e
  rw [if_neg h3] at e
  by_cases h4 : (s.drop 1).head? ≠ some 46
  · rw [if_pos h4] at e; cases e
  clear e
  obtain ⟨d,rfl⟩ : ∃ d,s = 48 :: 46 :: d:=by
    cases s with
    | nil => exact absurd rfl h2
    | cons b r => cases r with
      | nil => simp at h4
      | cons c r =>
        simp at h3 h4
        exact ⟨r,by rw [h3,h4]⟩
  rw [zjv] at h ⊢
  by_cases g1 : d = []
  · rw [if_pos g1] at h; cases h
  rw [if_neg g1] at h ⊢
  by_cases g2 : 0 ≤ badK isDig 0 d
  · rw [if_pos g2] at h; cases h
  rw [if_neg g2] at h ⊢
  by_cases g3 : 6 < d.length
  · rw [if_pos g3] at h; cases h
  rw [if_neg g3] at h ⊢
  by_cases g4 : val d = 0
  · rw [if_pos g4] at h; cases h
  rw [if_neg g4]
  have hd:=zb9 g2
  have hp : 0 < 10 ^ (6 - d.length):=Nat.pow_pos (by omega)
  have hpos:=Nat.mul_pos (Nat.pos_of_ne_zero g4) hp
  have hub : val d * 10 ^ (6 - d.length) < 1000000:=by
    have h5:=zc0 (zl.2 ⟨hd,zal (6 - d.length)⟩)
    rw [zab,List.length_append,List.length_replicate,show d.length + (6 - d.length) = 6 from by omega] at h5
    exact h5
  have hk : 1 ≤ ((val d * 10 ^ (6 - d.length) : Nat) : Int) ∧ ((val d * 10 ^ (6 - d.length) : Nat) : Int) < 1000000:=by omega
  have hf:=zai hk
  obtain ⟨p1,p2,p3,p4⟩:=za0 hub
  have hpd : pad6 (val d * 10 ^ (6 - d.length)) = d ++ List.replicate (6 - d.length) 48:=
    zoi p3 (zl.2 ⟨hd,zal _⟩) (by simp; omega) (by rw [p4,zab])
  have ht : trz (pad6 (val d * 10 ^ (6 - d.length))) = trz d:=by rw [hpd,zjq]
  have hne : trz d ≠ []:=fun hh => g4 ((zin hd).1 hh)
  show (0 : Int) = 0 ∧ _ ∧ _ ∧ (rateText ((val d * 10 ^ (6 - d.length) : Nat) : Int)).2.1 = 0 ∧ ∃ a j,_ ∧ (rateText ((val d * 10 ^ (6 - d.length) : Nat) : Int)).1 = a ∧ _
  rw [hf]
  refine ⟨rfl,hk.1,by show ((val d * 10 ^ (6 - d.length) : Nat) : Int) ≤ 1000000; omega,rfl,48 :: 46 :: trz d,d.length - (trz d).length,?_,?_,by simp,?_⟩
  · rw [List.cons_append,List.cons_append,← zb4]
  · show 48 :: 46 :: trz (pad6 (val d * 10 ^ (6 - d.length))) = _
    rw [ht]
  · intro x hx
    refine zed (l:=d) ?_
    rw [← hx]
    cases e : trz d with
    | nil => exact absurd e hne
    | cons b r => simp [List.getLast?_cons]
end Go.AM
set_option linter.unusedVariables false
set_option linter.unusedSimpArgs false
namespace Go.AM
def kindOf (s : List UInt8) : Int:=if s = [99] then 1 else if s = [103] then 2 else if s = [109,115] then 3 else if s = [104] then 4 else 0
def sdKindR (s : List UInt8) : Int × Int × Unit:=if kindOf s = 0 then (0,16,()) else (kindOf s,0,())
theorem zbt (n m : Nat) {X : Type} (k0 : Unit→Option X) (kr : Int→Int→Option X) (s : List UInt8) (v : Int) : F.zz.L2 n k0 kr (m + 1) s v = F.zz.L2.step n (F.zz.L2 n k0 kr m) k0 kr s v:=rfl
theorem zdy (n : Nat) {X : Type} (rec : List UInt8→Int→Option X) (k0 : Unit→Option X) (kr : Int→Int→Option X) (s : List UInt8) (v : Int) (h : v ≤ 5) (h1 : 1 ≤ v) : F.zz.L2.step n rec k0 kr s v = if v ≤ 4 ∧ wordL v = s then kr v 0 else rec s (v + 1):=by
  unfold F.zz.L2.step
  rw [zd h]
  simp only [O.word,za]
  rw [zi (by omega)]
  by_cases h4 : v ≤ 4
  · have hE : wordE v = 0:=by unfold wordE; rw [if_pos (by omega)]
    rw [hE]
    by_cases hs : wordL v = s
    · rw [if_pos ⟨h4,hs⟩,hs]; simp
    · rw [if_neg (fun hh => hs hh.2),beq_eq_false_iff_ne.2 hs]; rfl
  · have hE : wordE v = 16:=by unfold wordE; rw [if_neg (by omega)]
    rw [hE,if_neg (fun hh => h4 hh.1)]; rfl
theorem zr0 (n : Nat) (hn : 10 ≤ n) (s : List UInt8) : F.zz n s = some (sdKindR s):=by
  unfold F.zz
  obtain ⟨m,hm⟩ : ∃ q,n = q + 6:=⟨n - 6,by omega⟩
  have key : ∀ (X : Type) (k0 : Unit→Option X) (kr : Int→Int→Option X),F.zz.L2 n k0 kr (m + 6) s 1 = if kindOf s = 0 then k0 () else kr (kindOf s) 0:=by
    intro X k0 kr
    rw [zbt n (m + 5),zdy n _ _ _ _ _ (by omega) (by omega)]
    unfold kindOf
    have w1 : wordL 1 = [99]:=rfl
    have w2 : wordL 2 = [103]:=rfl
    have w3 : wordL 3 = [109,115]:=rfl
    have w4 : wordL 4 = [104]:=rfl
    by_cases h1 : s = [99]
    · rw [if_pos ⟨by omega,by rw [h1]; rfl⟩,if_pos h1]; rfl
    rw [if_neg (fun h => h1 (by rw [← h.2]; rfl)),if_neg h1,zbt n (m + 4),zdy n _ _ _ _ _ (by omega) (by omega)]
    by_cases h2 : s = [103]
    · rw [if_pos ⟨by omega,by rw [h2]; rfl⟩,if_pos h2]; rfl
    rw [if_neg (fun h => h2 (by rw [← h.2]; rfl)),if_neg h2,zbt n (m + 3),zdy n _ _ _ _ _ (by omega) (by omega)]
    by_cases h3 : s = [109,115]
    · rw [if_pos ⟨by omega,by rw [h3]; rfl⟩,if_pos h3]; rfl
    rw [if_neg (fun h => h3 (by rw [← h.2]; rfl)),if_neg h3,zbt n (m + 2),zdy n _ _ _ _ _ (by omega) (by omega)]
    by_cases h4 : s = [104]
    · rw [if_pos ⟨by omega,by rw [h4]; rfl⟩,if_pos h4]; rfl
    rw [if_neg (fun h => h4 (by rw [← h.2]; rfl)),if_neg h4,zbt n (m + 1),zdy n _ _ _ _ _ (by omega) (by omega),if_neg (fun h => by have:=h.1; omega),zbt n m]
    unfold F.zz.L2.step
    rw [zg (by omega)]
    rfl
  rw [← hm] at key
  rw [key]
  unfold sdKindR
  by_cases h : kindOf s = 0
  · rw [if_pos h,if_pos h]
  · rw [if_neg h,if_neg h]
end Go.AM
set_option linter.unusedVariables false
set_option linter.unusedSimpArgs false
namespace Go.AM
abbrev KRS (X : Type):=List UInt8→List UInt8→Int→List (Bool × Int × Int)→Int→List (List UInt8 × List UInt8)→Int→Int→Int→Option X
section
variable {X : Type} (n : Nat) (kr : KRS X)
def badK' (kr : KRS X) (s : List UInt8) (c a : Int) : Option X:=kr s [] 0 [] 0 [] 0 c a
theorem zr1 (c9 : Bool) (s : List UInt8) (b10 : List UInt8) (b11 : Int) (b12 : List (Bool × Int × Int)) (b13 : Int) (b14 : List (List UInt8 × List UInt8)) (b15 b20 b21 b3 : Int) (d0 : List UInt8) (d1 : Int) (d2 : List (Bool × Int × Int)) (d3 : Int) (d4 : List (List UInt8 × List UInt8)) (d5 : Int) (k0 k1 k2 k3 : Nat) :
    F.za.C31 n kr c9 s b10 b11 b12 b13 b14 b15 b20 b21 b3 d0 d1 d2 d3 d4 d5 k0 k1 k2 k3 = if c9 = true then badK' kr s 11 (IntKind.wrap .i64 (b3 - 1)) else kr s d0 d1 d2 d3 d4 d5 0 0:=by
  cases c9 <;> rfl
theorem zr2 (hn : 100 ≤ n) (c9 : Bool) (kind : Int) (rate : List UInt8) (hr : rate.length ≤ 10000) (hl : rate.length < n) (at' : Int) (s : List UInt8) (b10 : List UInt8) (b11 : Int) (b12 : List (Bool × Int × Int)) (b13 : Int) (b14 : List (List UInt8 × List UInt8)) (b15 b20 b21 b3 : Int) (d0 : List UInt8) (d1 : Int) (d2 : List (Bool × Int × Int)) (d3 : Int) (d4 : List (List UInt8 × List UInt8)) (d5 : Int) (e0 : Bool) (e1 e2 f0 f1 : Int) (k0 k1 k2 k3 : Nat) :
    F.za.C28 n kr c9 kind rate at' s b10 b11 b12 b13 b14 b15 b20 b21 b3 d0 d1 d2 d3 d4 d5 e0 e1 e2 f0 f1 k0 k1 k2 k3 =
      if ¬ (rateR rate).2.1.1 = 0 ∨ (kind = 2 ∧ ¬ (rateR rate).1 = 1000000) then badK' kr s 18 at' else if c9 = true then badK' kr s 11 (IntKind.wrap .i64 (b3 - 1)) else kr s d0 d1 d2 (rateR rate).1 d4 d5 0 0:=by
  unfold F.za.C28
  rw [zl3 n hn rate (by omega) hl,za]
  have c30 : ∀ (kn : Bool→List UInt8→List UInt8→Int→List (Bool × Int × Int)→Int→List (List UInt8 × List UInt8)→Int→Int→Int→Int→List UInt8→Int→List (Bool × Int × Int)→Int→List (List UInt8 × List UInt8)→Int→Nat→Nat→Nat→Nat→Option X) (t : Bool) (r : Int),F.za.C30 n kr kn c9 at' t s b10 b11 b12 b13 b14 b15 b20 b21 b3 d0 d1 d2 r d4 d5 k0 k1 k2 k3 = if t = true then badK' kr s 18 at' else kn c9 s b10 b11 b12 b13 b14 b15 b20 b21 b3 d0 d1 d2 r d4 d5 k0 k1 k2 k3:=by
    intro kn t r
    cases t <;> rfl
  by_cases h0 : (rateR rate).2.1.1 = 0
  · have h1:=(zf1 h0).1
    have e : (!((rateR rate).2.1.1 == 0 && (rateR rate).2.1.2.1 == 0)) = false:=by rw [h0,h1]; rfl
    rw [e,cond_false]
    by_cases hk : kind = 2
    · have ek : (kind == 2) = true:=by simp [hk]
      rw [ek,cond_true]
      refine (c30 _ _ _).trans ?_
      by_cases hr1 : (rateR rate).1 = 1000000
      · have e2 : (!((rateR rate).1 == 1000000)) = false:=by simp [hr1]
        rw [e2,if_neg (by simp),if_neg (by simp [h0,hr1])]
        exact zr1 n kr c9 s b10 b11 b12 b13 b14 b15 b20 b21 b3 d0 d1 d2 _ d4 d5 k0 k1 k2 k3
      · have e2 : (!((rateR rate).1 == 1000000)) = true:=by simpa using hr1
        rw [e2,if_pos rfl,if_pos (Or.inr ⟨hk,hr1⟩)]
    · have ek : (kind == 2) = false:=by simpa using hk
      rw [ek,cond_false]
      refine (c30 _ _ _).trans ?_
      rw [if_neg (by simp),if_neg (by simp [h0,hk])]
      exact zr1 n kr c9 s b10 b11 b12 b13 b14 b15 b20 b21 b3 d0 d1 d2 _ d4 d5 k0 k1 k2 k3
  · have e : (!((rateR rate).2.1.1 == 0 && (rateR rate).2.1.2.1 == 0)) = true:=by
      have : ((rateR rate).2.1.1 == 0) = false:=by simpa using h0
      rw [this]; rfl
    rw [e,cond_true]
    refine (c30 _ _ _).trans ?_
    rw [if_pos rfl,if_pos (Or.inl h0)]
def rateS (kr : KRS X) (s name : List UInt8) (kind : Int) (v : List (Bool × Int × Int)) (r0 : Int) (tags : List (List UInt8 × List UInt8)) (time : Int) (is3 : Bool) (p : Nat) : Option X:=
  if is3 = false then kr s name kind v r0 tags time 0 0
  else if ¬ (s.drop p).head? = some 64 then badK' kr s 11 p
  else if ¬ (rateR (seg 124 (s.drop (p + 1)))).2.1.1 = 0 ∨ (kind = 2 ∧ ¬ (rateR (seg 124 (s.drop (p + 1)))).1 = 1000000) then badK' kr s 18 ((p + 1 : Nat) : Int)
  else if 124 ∈ s.drop (p + 1) then badK' kr s 11 ((p + 1 + (seg 124 (s.drop (p + 1))).length : Nat) : Int) else kr s name kind v (rateR (seg 124 (s.drop (p + 1)))).1 tags time 0 0
theorem zr3 (hn : 20000 ≤ n) (name : List UInt8) (is3 : Bool) (kind : Int) (s : List UInt8) (hs : s.length ≤ 10000) (b10 : List UInt8) (b11 : Int) (b12 : List (Bool × Int × Int)) (b13 : Int) (b14 : List (List UInt8 × List UInt8)) (b15 b20 b21 : Int) (p : Nat) (hp : p ≤ s.length) (d0 : List UInt8) (d1 : Int) (d2 : List (Bool × Int × Int)) (d3 : Int) (d4 : List (List UInt8 × List UInt8)) (d5 : Int) (e0 : Bool) (e1 e2 f0 f1 : Int) (k0 k1 k2 k3 : Nat) :
    F.za.C21 n kr name is3 kind s b10 b11 b12 b13 b14 b15 b20 b21 (p : Int) d0 d1 d2 d3 d4 d5 e0 e1 e2 f0 f1 k0 k1 k2 k3 = rateS kr s name kind [(e0,e1,e2)] d3 d4 d5 is3 p:=by
  unfold F.za.C21 rateS
  cases is3
  · rfl
  · rw [Bool.not_true,cond_false,if_neg (by simp),zbf hp,za,za5,za]
    by_cases h64 : (s.drop p).head? = some 64
    · have hlt:=zok h64
      have hsl:=zam 124 (s.drop (p + 1))
      have hdl : (s.drop (p + 1)).length = s.length - (p + 1):=by simp
      rw [decide_eq_true h64,Bool.not_true,cond_false,if_neg (fun h => h h64),zh (by omega),zbf (by omega),za,zby n 124 (by omega),za]
      have w1 : IntKind.wrap .i64 (((p + 1 : Nat) : Int) + ((seg 124 (s.drop (p + 1))).length : Int)) = ((p + 1 + (seg 124 (s.drop (p + 1))).length : Nat) : Int):=by rw [zi (by omega)]; omega
      simp only [w1]
      by_cases hm : 124 ∈ s.drop (p + 1)
      · simp only [hm,decide_true,cond_true,if_true]
        rw [zh (by omega)]
        refine (zr2 n kr (by omega) true kind _ (by omega) (by omega) _ s b10 b11 b12 b13 b14 b15 b20 b21 _ name kind [(e0,e1,e2)] d3 d4 d5 e0 e1 e2 f0 f1 k0 k1 1 k3).trans ?_
        rw [if_pos rfl,zi (by omega)]
        congr 2
        omega
      · simp only [hm,decide_false,cond_false,if_false]
        exact (zr2 n kr (by omega) false kind _ (by omega) (by omega) _ s b10 b11 b12 b13 b14 b15 b20 b21 _ name kind [(e0,e1,e2)] d3 d4 d5 e0 e1 e2 f0 f1 k0 k1 1 k3)
    · rw [decide_eq_false h64,Bool.not_false,cond_true,if_pos h64]
      rfl
def kindS (kr : KRS X) (s name : List UInt8) (word value : List UInt8) (av aw : Int) (v : List (Bool × Int × Int)) (r0 : Int) (tags : List (List UInt8 × List UInt8)) (time : Int) (is3 : Bool) (p : Nat) : Option X:=
  if kindOf word = 0 then badK' kr s 16 aw else if kindOf word = 2 ∧ value.head? = some 45 then badK' kr s 26 av else rateS kr s name (kindOf word) v r0 tags time is3 p
theorem zr4 (hn : 20000 ≤ n) (name : List UInt8) (is3 : Bool) (value : List UInt8) (av : Int) (word : List UInt8) (aw : Int) (s : List UInt8) (hs : s.length ≤ 10000) (b10 : List UInt8) (b11 : Int) (b12 : List (Bool × Int × Int)) (b13 : Int) (b14 : List (List UInt8 × List UInt8)) (b15 b20 b21 : Int) (p : Nat) (hp : p ≤ s.length) (d0 : List UInt8) (d1 : Int) (d2 : List (Bool × Int × Int)) (d3 : Int) (d4 : List (List UInt8 × List UInt8)) (d5 : Int) (e0 : Bool) (e1 e2 f0 f1 : Int) (k0 k1 k2 k3 : Nat) :
    F.za.C16 n kr name is3 value av word aw s b10 b11 b12 b13 b14 b15 b20 b21 (p : Int) d0 d1 d2 d3 d4 d5 e0 e1 e2 f0 f1 k0 k1 k2 k3 = kindS kr s name word value av aw [(e0,e1,e2)] d3 d4 d5 is3 p:=by
  unfold F.za.C16 kindS
  rw [zr0 n (by omega),za]
  unfold sdKindR
  by_cases h0 : kindOf word = 0
  · rw [if_pos h0,if_pos h0]; rfl
  · have e0' : (!((0 : Int) == 0)) = false:=rfl
    rw [if_neg h0,if_neg h0]
    simp only [e0',cond_false]
    by_cases h2 : kindOf word = 2
    · have e2' : (kindOf word == 2) = true:=by simp [h2]
      rw [e2',cond_true,za5,za]
      by_cases h45 : value.head? = some 45
      · rw [decide_eq_true h45,cond_true,if_pos ⟨h2,h45⟩]; rfl
      · rw [decide_eq_false h45,cond_false,if_neg (fun h => h45 h.2)]
        exact zr3 n kr hn name is3 _ s hs b10 b11 b12 b13 b14 b15 b20 b21 p hp d0 d1 d2 d3 d4 d5 e0 e1 e2 f0 f1 k0 k1 k2 k3
    · have e2' : (kindOf word == 2) = false:=by simpa using h2
      rw [e2',cond_false,if_neg (fun h => h2 h.1)]
      exact zr3 n kr hn name is3 _ s hs b10 b11 b12 b13 b14 b15 b20 b21 p hp d0 d1 d2 d3 d4 d5 e0 e1 e2 f0 f1 k0 k1 k2 k3
def valueS (kr : KRS X) (s name : List UInt8) (value : List UInt8) (av : Nat) (r0 : Int) (tags : List (List UInt8 × List UInt8)) (time : Int) (is2 : Bool) (p : Nat) : Option X:=
  if ¬ (parseR value).2.1.1 = 0 then badK' kr s 17 av else if is2 = false then badK' kr s 11 s.length
  else kindS kr s name (seg 124 (s.drop p)) value av p [((parseR value).1.1,(parseR value).1.2.1,(parseR value).1.2.2.1)] r0 tags time (decide (124 ∈ s.drop p)) (nextP 124 s p)
theorem zr5 (hn : 200000 ≤ n) (name : List UInt8) (is2 : Bool) (value : List UInt8) (hv : value.length ≤ 10000) (av : Nat) (s : List UInt8) (hs : s.length ≤ 10000) (b10 : List UInt8) (b11 : Int) (b12 : List (Bool × Int × Int)) (b13 : Int) (b14 : List (List UInt8 × List UInt8)) (b15 b20 b21 : Int) (p : Nat) (hp : p ≤ s.length) (d0 : List UInt8) (d1 : Int) (d2 : List (Bool × Int × Int)) (d3 : Int) (d4 : List (List UInt8 × List UInt8)) (d5 : Int) (k0 k1 k2 k3 : Nat) :
    F.za.C10 n kr name is2 value (av : Int) s b10 b11 b12 b13 b14 b15 b20 b21 (p : Int) d0 d1 d2 d3 d4 d5 k0 k1 k2 k3 = valueS kr s name value av d3 d4 d5 is2 p:=by
  unfold F.za.C10 valueS
  rw [zdq n hn value hv,za]
  by_cases h0 : (parseR value).2.1.1 = 0
  · have e : (!((parseR value).2.1.1 == 0 && (parseR value).2.1.2.1 == 0)) = false:=by rw [h0,zce h0]; rfl
    rw [e,cond_false,if_neg (fun h => h h0)]
    cases is2
    · rfl
    · have hsl:=zam 124 (s.drop p)
      have hdl : (s.drop p).length = s.length - p:=by simp
      have hnl:=zgz (c:=124) hp
      rw [Bool.not_true,cond_false,if_neg (by simp),zbf hp,za,zby n 124 (by omega),za]
      have w1 : IntKind.wrap .i64 ((p : Int) + ((seg 124 (s.drop p)).length : Int)) = ((p + (seg 124 (s.drop p)).length : Nat) : Int):=by rw [zi (by omega)]; omega
      simp only [w1]
      by_cases hm : 124 ∈ s.drop p
      · have hq : nextP 124 s p = p + (seg 124 (s.drop p)).length + 1:=by unfold nextP; rw [if_pos hm]
        simp only [hm,decide_true,cond_true]
        rw [zh (by omega),← hq]
        exact zr4 n kr (by omega) name true value _ _ _ s hs b10 b11 b12 b13 b14 b15 b20 b21 _ hnl d0 d1 d2 d3 d4 d5 _ _ _ _ _ k0 k1 k2 k3
      · have hq : nextP 124 s p = p + (seg 124 (s.drop p)).length:=by unfold nextP; rw [if_neg hm]; rfl
        simp only [hm,decide_false,cond_false]
        rw [← hq]
        exact zr4 n kr (by omega) name false value _ _ _ s hs b10 b11 b12 b13 b14 b15 b20 b21 _ hnl d0 d1 d2 d3 d4 d5 _ _ _ _ _ k0 k1 k2 k3
  · have e : (!((parseR value).2.1.1 == 0 && (parseR value).2.1.2.1 == 0)) = true:=by
      have : ((parseR value).2.1.1 == 0) = false:=by simpa using h0
      rw [this]; rfl
    rw [e,cond_true,if_pos h0]
    rfl
def nameS (kr : KRS X) (s name : List UInt8) (r0 : Int) (tags : List (List UInt8 × List UInt8)) (time : Int) (is1 : Bool) (p : Nat) : Option X:=
  if ¬ (textF 1 name 1 200).1 = 0 then badK' kr s 15 0 else if is1 = false then badK' kr s 11 s.length
  else valueS kr s name (seg 124 (s.drop p)) p r0 tags time (decide (124 ∈ s.drop p)) (nextP 124 s p)
theorem zwd (hn : 200000 ≤ n) (name : List UInt8) (hnl : name.length ≤ 10000) (is1 : Bool) (s : List UInt8) (hs : s.length ≤ 10000) (b10 : List UInt8) (b11 : Int) (b12 : List (Bool × Int × Int)) (b13 : Int) (b14 : List (List UInt8 × List UInt8)) (b15 b20 b21 : Int) (p : Nat) (hp : p ≤ s.length) (d0 : List UInt8) (d1 : Int) (d2 : List (Bool × Int × Int)) (d3 : Int) (d4 : List (List UInt8 × List UInt8)) (d5 : Int) (k0 k1 k2 k3 : Nat) :
    F.za.C5 n kr name is1 s b10 b11 b12 b13 b14 b15 b20 b21 (p : Int) d0 d1 d2 d3 d4 d5 k0 k1 k2 k3 = nameS kr s name d3 d4 d5 is1 p:=by
  unfold F.za.C5 nameS
  rw [zbe n 1 name 1 200 (by omega) (by omega),za]
  by_cases h0 : (textF 1 name 1 200).1 = 0
  · have e : (!((textF 1 name 1 200).1 == 0 && (textF 1 name 1 200).2.1 == 0)) = false:=by rw [h0,zl2 h0]; rfl
    rw [e,cond_false,if_neg (fun h => h h0)]
    cases is1
    · rfl
    · have hsl:=zam 124 (s.drop p)
      have hdl : (s.drop p).length = s.length - p:=by simp
      have hnx:=zgz (c:=124) hp
      rw [Bool.not_true,cond_false,if_neg (by simp),zbf hp,za,zby n 124 (by omega),za]
      have w1 : IntKind.wrap .i64 ((p : Int) + ((seg 124 (s.drop p)).length : Int)) = ((p + (seg 124 (s.drop p)).length : Nat) : Int):=by rw [zi (by omega)]; omega
      simp only [w1]
      by_cases hm : 124 ∈ s.drop p
      · have hq : nextP 124 s p = p + (seg 124 (s.drop p)).length + 1:=by unfold nextP; rw [if_pos hm]
        simp only [hm,decide_true,cond_true]
        rw [zh (by omega),← hq]
        exact zr5 n kr hn name true _ (by omega) p s hs b10 b11 b12 b13 b14 b15 b20 b21 _ hnx d0 d1 d2 d3 d4 d5 k0 k1 k2 k3
      · have hq : nextP 124 s p = p + (seg 124 (s.drop p)).length:=by unfold nextP; rw [if_neg hm]; rfl
        simp only [hm,decide_false,cond_false]
        rw [← hq]
        exact zr5 n kr hn name false _ (by omega) p s hs b10 b11 b12 b13 b14 b15 b20 b21 _ hnx d0 d1 d2 d3 d4 d5 k0 k1 k2 k3
  · have e : (!((textF 1 name 1 200).1 == 0 && (textF 1 name 1 200).2.1 == 0)) = true:=by
      have : ((textF 1 name 1 200).1 == 0) = false:=by simpa using h0
      rw [this]; rfl
    rw [e,cond_true,if_pos h0]
    rfl
end
def finK : KRS MetR:=fun _ a b c d e f x y => some ((a,b,c,d,e,f,()),(x,y,()),())
def sdParse (s : List UInt8) : Option MetR:=nameS finK s (seg 58 s) 1000000 [] 0 (decide (58 ∈ s)) (nextP 58 s 0)
theorem zpn (n : Nat) (hn : 200000 ≤ n) (s : List UInt8) (hs : s.length ≤ 10000) : F.za n s = sdParse s:=by
  unfold F.za sdParse
  have h0 : sub s (0 : Int) (s.length : Int) = some s:=zbf (s:=s) (p:=0) (Nat.zero_le _)
  have hsl:=zam 58 s
  have hnx:=zgz (c:=58) (s:=s) (p:=0) (Nat.zero_le _)
  rw [h0,za,zby n 58 (by omega),za]
  have w1 : IntKind.wrap .i64 ((0 : Int) + ((seg 58 s).length : Int)) = (((seg 58 s).length : Nat) : Int):=by rw [zi (by omega)]; omega
  simp only [w1]
  by_cases hm : 58 ∈ s
  · have hq : nextP 58 s 0 = (seg 58 s).length + 1:=by unfold nextP; rw [List.drop_zero,if_pos hm]; omega
    simp only [hm,decide_true,cond_true]
    rw [zh (by omega),← hq]
    exact zwd n finK hn _ (by omega) true s hs _ _ _ _ _ _ _ _ _ hnx _ _ _ _ _ _ _ _ _ _
  · have hq : nextP 58 s 0 = (seg 58 s).length:=by unfold nextP; rw [List.drop_zero,if_neg hm]; omega
    simp only [hm,decide_false,cond_false]
    rw [← hq]
    exact zwd n finK hn _ (by omega) false s hs _ _ _ _ _ _ _ _ _ hnx _ _ _ _ _ _ _ _ _ _
end Go.AM
set_option linter.unusedVariables false
set_option linter.unusedSimpArgs false
namespace Go.AM
def rateL (r : Int) : List UInt8:=if r = 1000000 then [] else [124,64] ++ (rateText r).1
def lineS (m : MetD) : List UInt8:=m.1 ++ [58] ++ valL m.2.2.1 ++ [124] ++ wordL m.2.1 ++ rateL m.2.2.2.1
def sdLineR (m : MetD) : List UInt8 × Int × Unit:=if expM m 1 = 0 then (lineS m,0,()) else ([],expM m 1,())
theorem zeg {m : MetD} (h : expM m 1 = 0) : ∃ nm k d r,m = (nm,k,[d],r,[],0,()) ∧ nameOK nm = true ∧ 1 ≤ k ∧ k ≤ 4 ∧ decC d = 0 ∧ 1 ≤ r ∧ r ≤ 1000000 ∧ (k = 2→r = 1000000) ∧ (k = 2→d.1 = false):=by
  obtain ⟨nm,k,vs,r,ts,t,_⟩:=m
  unfold expM at h
  rw [if_neg (by omega)] at h
  by_cases h0 : chkM (nm,k,vs,r,ts,t,()) = 0
  · rw [if_pos h0] at h
    have hs : saysS (nm,k,vs,r,ts,t,()) = true:=by
      cases e : saysM (nm,k,vs,r,ts,t,()) 1
      · rw [e] at h; cases h
      · exact e
    obtain ⟨c1,c2,c3,c4,c5,c6⟩:=zbp h0
    simp only at c1 c2 c3 c4 c5 c6
    unfold saysS at hs
    simp only [Bool.and_eq_true,Bool.not_eq_true',beq_iff_eq,beq_eq_false_iff_ne,Bool.or_eq_true] at hs
    obtain ⟨hb,ht,hk5,hk2⟩:=hs
    unfold bareM at hb
    simp only [Bool.and_eq_true,decide_eq_true_eq] at hb
    obtain ⟨hv,hg⟩:=hb
    have hg' : ts = []:=List.length_eq_zero_iff.1 hg
    subst hg' ht
    match vs,hv with
    | [d],_ =>
      unfold kindB at c2
      unfold valsB at c3
      unfold rateB at c4
      simp only [Bool.and_eq_true,decide_eq_true_eq,List.all_cons,List.all_nil,Bool.and_true,beq_iff_eq,Bool.or_eq_true,Bool.not_eq_true',beq_eq_false_iff_ne] at c2 c3 c4
      refine ⟨nm,k,d,r,rfl,c1,c2.1,by omega,c3.2.2,c4.1,c4.2.1,fun hk => ?_,fun hk => ?_⟩
      · rcases c4.2.2 with h | h
        · exact absurd hk h
        · exact h
      · rcases hk2 with h | h
        · exact absurd hk h
        · exact h
  · rw [if_neg h0] at h; exact absurd h h0
theorem zu8 {k : Int} (h1 : 1 ≤ k) (h2 : k ≤ 4) : wordE k = 0:=by unfold wordE; rw [if_pos (by omega)]
theorem zl4 (k : Int) : (wordL k).length ≤ 2:=by
  unfold wordL
  repeat (first | split | decide)
theorem zgj {r : Int} (h1 : 1 ≤ r) (h2 : r ≤ 1000000) : (rateText r).2.1 = 0 ∧ (rateText r).1.length ≤ 8:=by
  by_cases h : r = 1000000
  · subst h; exact ⟨rfl,by decide⟩
  · rw [zai ⟨h1,by omega⟩]
    obtain ⟨p1,p2,p3,p4⟩:=za0 (k:=r.toNat) (by omega)
    have:=zcd (pad6 r.toNat)
    refine ⟨rfl,?_⟩
    simp only [List.length_cons]
    omega
theorem zr6 (n : Nat) (hn : 200000 ≤ n) (m : MetD) (hm : MetOK m) : F.zbd n m = some (sdLineR m):=by
  unfold F.zbd sdLineR
  have he : F.zal n (m.1,m.2.1,m.2.2.1,m.2.2.2.1,m.2.2.2.2.1,m.2.2.2.2.2.1,()) (1 : Int) = some (expM m 1):=zir n hn m hm 1
  rw [he,za]
  by_cases h0 : expM m 1 = 0
  · rw [if_pos h0]
    obtain ⟨nm,k,d,r,rfl,hnm,k1,k4,hd,r1,r2,hr2,hneg⟩:=zeg h0
    have hdo : DecLOK d:=hm.2.1.2 d (by simp)
    have hn1:=hm.1
    simp only at hn1
    have ht:=zb5 hdo hd
    have hw:=zl4 k
    obtain ⟨t1,t2⟩:=zgj r1 r2
    have hE:=zu8 k1 k4
    have hi : idx [d] (0 : Int) = some d:=rfl
    rw [h0]
    simp only [O.word,za,hE,hi,zef n hn hdo hd,zfj,t1]
    unfold lineS valL rateL
    simp only [beq_self_eq_true,Bool.not_true,cond_false]
    rw [zd (by rw [zn]; omega),zd (by rw [zn]; simp; omega),zd (by rw [zn]; simp; omega),zd (by rw [zn]; simp; omega)]
    by_cases hr : r = 1000000
    · subst hr; simp
    · rw [beq_eq_false_iff_ne.2 hr,cond_false,if_neg hr,zd (by rw [zn]; simp; omega),zd (by rw [zn]; simp; omega),zd (by rw [zn]; simp; omega)]
      simp
  · rw [beq_eq_false_iff_ne.2 h0,if_neg h0]; rfl
end Go.AM
set_option linter.unusedVariables false
set_option linter.unusedSimpArgs false
namespace Go.AM
end Go.AM
set_option linter.unusedVariables false
set_option linter.unusedSimpArgs false
namespace Go.AM
end Go.AM
set_option linter.unusedVariables false
set_option linter.unusedSimpArgs false
namespace Go.AM
end Go.AM
set_option linter.unusedVariables false
set_option linter.unusedSimpArgs false
namespace Go.AM
section
variable {X : Type} (n : Nat) (kr : KRS X)
end
end Go.AM
set_option linter.unusedVariables false
set_option linter.unusedSimpArgs false
namespace Go.AM
theorem zbi {c : UInt8} {a : List UInt8} (h : c ∉ a) (t : List UInt8) : seg c (a ++ c :: t) = a:=by
  induction a with
  | nil => show seg c (c :: t) = []; rw [zaq,if_pos rfl]
  | cons b a ih =>
    show seg c (b :: (a ++ c :: t)) = _
    rw [zaq,if_neg (fun hh => h (by simp [hh])),ih (fun hh => h (by simp [hh]))]
theorem zbu {c : UInt8} {s : List UInt8} (h : c ∈ s) : s = seg c s ++ c :: s.drop ((seg c s).length + 1):=by
  induction s with
  | nil => simp at h
  | cons b s ih =>
    rw [zaq]
    by_cases hb : b = c
    · rw [if_pos hb,hb]; rfl
    · rw [if_neg hb]
      have hm : c ∈ s:=by
        rcases List.mem_cons.1 h with h | h
        · exact absurd h.symm hb
        · exact h
      have:=ih hm
      simp only [List.length_cons,List.drop_succ_cons,List.cons_append]
      rw [← this]
theorem zg0 (c : UInt8) (s : List UInt8) : c ∉ seg c s:=by
  induction s with
  | nil => simp [seg]
  | cons b s ih =>
    rw [zaq]
    by_cases hb : b = c
    · rw [if_pos hb]; simp
    · rw [if_neg hb]
      intro hm
      rcases List.mem_cons.1 hm with h | h
      · exact hb h.symm
      · exact ih h
theorem zfk {c : UInt8} {s a t : List UInt8} {p : Nat} (hs : s.drop p = a ++ c :: t) (h : c ∉ a) : nextP c s p = p + a.length + 1 ∧ s.drop (p + a.length + 1) = t:=by
  constructor
  · unfold nextP
    rw [hs,zbi h,if_pos (by simp)]
  · rw [Nat.add_assoc,← List.drop_drop,hs]
    simp
theorem zr7 {c : UInt8} {s a : List UInt8} {p : Nat} (hs : s.drop p = a) (h : c ∉ a) : nextP c s p = p + a.length:=by
  unfold nextP
  rw [hs,if_neg h,za7 h]; omega
theorem zr8 {s : List UInt8} (h : nameOK s = true) : (58 : UInt8) ∉ s:=by
  rw [zdh] at h
  simp only [Bool.and_eq_true,List.all_eq_true] at h
  intro hm
  have:=h.1 58 hm
  revert this
  decide
abbrev badM (c a : Int) : MetR:=(([],0,[],0,[],0,()),(c,a,()),())
end Go.AM
set_option linter.unusedVariables false
set_option linter.unusedSimpArgs false
namespace Go.AM
theorem znm (s : List UInt8) : ((parseR s).2.1.1 ≠ 0 ∧ (parseR s).1 = (false,0,0,()) ∧ 0 ≤ (parseR s).2.1.2.1 ∧ (parseR s).2.1.2.1 ≤ s.length) ∨
    (∃ (neg : Bool) (c : Nat) (e : Int),parseR s = ((neg,(c : Int),e,()),(0,0,()),()) ∧ c < two64 ∧ (-9223372036854775808 ≤ e ∧ e ≤ 9223372036854775807) ∧ checkR neg c e = 0):=by
  unfold parseR
  by_cases h : (lookR s).1 = 0
  · rw [if_pos h]
    have hD : Digs (aheadD s ++ behindD s):=zl.2 ⟨zcv _,zdp s⟩
    generalize aheadD s ++ behindD s = d at hD
    generalize (-((behindD s).length : Int)) = E
    generalize negD s = neg
    by_cases hv : val d = 0
    · refine Or.inr ⟨false,0,0,?_,by decide,by omega,?_⟩
      · have : valR neg d E = zeroD:=by unfold valR; rw [if_pos hv]
        rw [this]; rfl
      · have d0 : Lib.decDigits 0 = [48]:=zbn (by omega)
        unfold checkR
        rw [d0]; rfl
    · obtain ⟨c0,z,h1,h2⟩:=zbd (val d) (by omega)
      rw [zac hD h2 h1]
      generalize E + (z : Int) = Y
      by_cases hY : Y < -18
      · refine Or.inl ?_
        have : normR neg c0 Y = ((false,0,0,()),10,()):=by unfold normR; rw [if_pos hY]
        rw [this]
        exact ⟨by decide,rfl,by decide,by show (0 : Int) ≤ s.length; omega⟩
      · by_cases hf : c0 * 10 ^ (Y - 18).toNat < two64
        · have e1 : normR neg c0 Y = ((neg,((c0 * 10 ^ (Y - 18).toNat : Nat) : Int),(if Y ≤ 18 then Y else 18),()),0,()):=by unfold normR; rw [if_neg hY,if_pos hf]
          rw [e1]
          have hE : -18 ≤ (if Y ≤ 18 then Y else 18) ∧ (if Y ≤ 18 then Y else 18) ≤ 18:=by split <;> omega
          refine Or.inr ⟨neg,c0 * 10 ^ (Y - 18).toNat,(if Y ≤ 18 then Y else 18),rfl,hf,by omega,?_⟩
          unfold checkR
          rw [if_neg (by omega),zac (zaa _) h2 (zat _)]
          have e2 : (if Y ≤ 18 then Y else 18) + (((Y - 18).toNat : Nat) : Int) = Y:=by split <;> omega
          rw [e2,e1,if_pos ⟨rfl,rfl⟩]
        · refine Or.inl ?_
          have : normR neg c0 Y = ((false,0,0,()),10,()):=by unfold normR; rw [if_neg hY,if_neg hf]
          rw [this]
          exact ⟨by decide,rfl,by decide,by show (0 : Int) ≤ s.length; omega⟩
  · rw [if_neg h]
    refine Or.inl ⟨h,rfl,?_⟩
    show 0 ≤ (lookR s).2.1 ∧ (lookR s).2.1 ≤ s.length
    have endle : ∀ (r : Prop) [Decidable r] (a l : Nat),a ≤ l→0 ≤ (endR r a l).2.1 ∧ (endR r a l).2.1 ≤ (l : Int):=by
      intro r _ a l hl
      unfold endR
      split
      · show (0 : Int) ≤ 0 ∧ (0 : Int) ≤ l; omega
      · split
        · show (0 : Int) ≤ a ∧ (a : Int) ≤ l; omega
        · show (0 : Int) ≤ a ∧ (a : Int) ≤ l; omega
    unfold lookR lookQ
    split
    · rename_i hp
      exact endle _ _ _ (zy3 hp.2)
    · exact endle _ _ _ (zpi (zkl s))
theorem zy5 {c : Nat} (h : 0 < c) : 10 ^ ((Lib.decDigits c).length - 1) ≤ c:=by
  have:=zyz (zaa c) (zde c) (fun x hx h48 => by
    subst h48
    have h1:=(zim c).2 hx
    cases e : Lib.decDigits c with
    | nil => exact zde c e
    | cons b r =>
      rw [e] at hx h1
      have hr : r = []:=by simpa using h1
      have hb : b = 48:=by simpa using hx
      have hv:=zat c
      rw [e,hr,hb] at hv
      rw [← hv] at h
      exact absurd h (by decide))
  rwa [zat] at this
end Go.AM
set_option linter.unusedVariables false
set_option linter.unusedSimpArgs false
namespace Go.AM
theorem zhx {w : List UInt8} (h : ¬ kindOf w = 0) : w = wordL (kindOf w) ∧ 1 ≤ kindOf w ∧ kindOf w ≤ 4 ∧ (124 : UInt8) ∉ w:=by
  unfold kindOf at h ⊢
  by_cases h1 : w = [99]
  · subst h1; decide
  rw [if_neg h1] at h ⊢
  by_cases h2 : w = [103]
  · subst h2; decide
  rw [if_neg h2] at h ⊢
  by_cases h3 : w = [109,115]
  · subst h3; decide
  rw [if_neg h3] at h ⊢
  by_cases h4 : w = [104]
  · subst h4; decide
  rw [if_neg h4] at h
  exact absurd rfl h
theorem zr9 {k : Int} (h1 : 1 ≤ k) (h4 : k ≤ 4) : kindOf (wordL k) = k:=by
  rcases (by omega : k = 1 ∨ k = 2 ∨ k = 3 ∨ k = 4) with h | h | h | h <;> subst h <;> decide
section
variable {X : Type} (kr : KRS X)
theorem zl5 {name value word : List UInt8} {d : DecL} (hn : nameOK name = true) (hv : (124 : UInt8) ∉ value) (hp : parseR value = ((d.1,d.2.1,d.2.2,()),(0,0,()),())) (hk : ¬ kindOf word = 0) (hg : ¬ (kindOf word = 2 ∧ value.head? = some 45))
    {s rest : List UInt8} (hs : s = name ++ 58 :: (value ++ 124 :: (word ++ rest))) (hr : rest = [] ∨ rest.head? = some 124) :
    nameS kr s (seg 58 s) 1000000 [] 0 (decide (58 ∈ s)) (nextP 58 s 0) = rateS kr s name (kindOf word) [d] 1000000 [] 0 (decide (rest.head? = some 124)) (name.length + 1 + value.length + 1 + word.length + (if rest.head? = some 124 then 1 else 0)):=by
  have hnf:=zr8 hn
  obtain ⟨hw1,hw2,hw3,hw4⟩:=zhx hk
  have h58 : (58 : UInt8) ∈ s:=by rw [hs]; simp
  have hseg : seg 58 s = name:=by rw [hs]; exact zbi hnf _
  have hd0 : s.drop 0 = name ++ 58 :: (value ++ 124 :: (word ++ rest)):=hs
  obtain ⟨n1,n2⟩:=zfk hd0 hnf
  rw [Nat.zero_add] at n1 n2
  have hm1 : (124 : UInt8) ∈ s.drop (name.length + 1):=by rw [n2]; simp
  obtain ⟨m1,m2⟩:=zfk n2 hv
  have hsv : seg 124 (s.drop (name.length + 1)) = value:=by rw [n2]; exact zbi hv _
  have hname : (textF 1 name 1 200).1 = 0:=by unfold nameOK at hn; simpa using hn
  unfold nameS
  rw [hseg,if_neg (fun h => h hname),decide_eq_true h58,if_neg (by simp),n1,hsv,m1,decide_eq_true hm1]
  unfold valueS
  rw [hp,if_neg (by simp),if_neg (by simp)]
  unfold kindS
  rcases hr with hr | hr
  · subst hr
    rw [List.append_nil] at m2
    have hsw : seg 124 (s.drop (name.length + 1 + value.length + 1)) = word:=by rw [m2]; exact za7 hw4
    have hm2 : ¬ (124 : UInt8) ∈ s.drop (name.length + 1 + value.length + 1):=by rw [m2]; exact hw4
    rw [hsw,if_neg hk,if_neg hg,decide_eq_false hm2,zr7 m2 hw4]
    rfl
  · obtain ⟨t,ht⟩ : ∃ t,rest = 124 :: t:=by
      cases rest with
      | nil => simp at hr
      | cons b t => exact ⟨t,by simp at hr; rw [hr]⟩
    subst ht
    have hsw : seg 124 (s.drop (name.length + 1 + value.length + 1)) = word:=by rw [m2]; exact zbi hw4 _
    have hm2 : (124 : UInt8) ∈ s.drop (name.length + 1 + value.length + 1):=by rw [m2]; simp
    rw [hsw,if_neg hk,if_neg hg,decide_eq_true hm2,(zfk m2 hw4).1]
    rfl
theorem zx5 {name value word t : List UInt8} {s : List UInt8} (hs : s = name ++ 58 :: (value ++ 124 :: (word ++ 124 :: t))) : s.drop (name.length + 1 + value.length + 1 + word.length + 1) = t ∧ s.length = name.length + 1 + value.length + 1 + word.length + 1 + t.length:=by
  subst hs
  refine ⟨?_,by simp; omega⟩
  rw [show name.length + 1 + value.length + 1 + word.length + 1 = name.length + (1 + (value.length + (1 + (word.length + 1)))) from by omega,List.drop_append,List.drop_eq_nil_of_le (by omega),List.nil_append]
  rw [show name.length + (1 + (value.length + (1 + (word.length + 1)))) - name.length = (value.length + (1 + (word.length + 1))) + 1 from by omega,List.drop_succ_cons,List.drop_append,List.drop_eq_nil_of_le (by omega),List.nil_append,
    show value.length + (1 + (word.length + 1)) - value.length = word.length + 1 + 1 from by omega,List.drop_succ_cons,List.drop_append,List.drop_eq_nil_of_le (by omega),List.nil_append,show word.length + 1 - word.length = 0 + 1 from by omega,List.drop_succ_cons,List.drop_zero]
end
abbrev OkR (name : List UInt8) (k : Int) (d : DecL) (r : Int) : MetR:=((name,k,[d],r,[],0,()),(0,0,()),())
theorem zl6 {name value word : List UInt8} {d : DecL} (hn : nameOK name = true) (hv : (124 : UInt8) ∉ value) (hp : parseR value = ((d.1,d.2.1,d.2.2,()),(0,0,()),())) (hk : ¬ kindOf word = 0) (hg : ¬ (kindOf word = 2 ∧ value.head? = some 45)) :
    sdParse (name ++ 58 :: (value ++ 124 :: word)) = some (OkR name (kindOf word) d 1000000):=by
  unfold sdParse
  have:=zl5 finK hn hv hp hk hg (s:=name ++ 58 :: (value ++ 124 :: word)) (rest:=[]) (by rw [List.append_nil]) (Or.inl rfl)
  rw [this]
  rfl
theorem zoo {name value word : List UInt8} {d : DecL} (hn : nameOK name = true) (hv : (124 : UInt8) ∉ value) (hp : parseR value = ((d.1,d.2.1,d.2.2,()),(0,0,()),())) (hk : ¬ kindOf word = 0) (hg : ¬ (kindOf word = 2 ∧ value.head? = some 45)) (t : List UInt8) :
    sdParse (name ++ 58 :: (value ++ 124 :: (word ++ 124 :: t))) = some (if ¬ t.head? = some 64 then badM 11 ((name.length + 1 + value.length + 1 + word.length + 1 : Nat) : Int)
      else if ¬ (rateR (seg 124 (t.drop 1))).2.1.1 = 0 ∨ (kindOf word = 2 ∧ ¬ (rateR (seg 124 (t.drop 1))).1 = 1000000) then badM 18 ((name.length + 1 + value.length + 1 + word.length + 1 + 1 : Nat) : Int)
      else if 124 ∈ t.drop 1 then badM 11 ((name.length + 1 + value.length + 1 + word.length + 1 + 1 + (seg 124 (t.drop 1)).length : Nat) : Int)
      else OkR name (kindOf word) d (rateR (seg 124 (t.drop 1))).1):=by
  unfold sdParse
  generalize hs : name ++ 58 :: (value ++ 124 :: (word ++ 124 :: t)) = s
  have:=zl5 finK hn hv hp hk hg (s:=s) (rest:=124 :: t) hs.symm (Or.inr rfl)
  have hd:=(zx5 hs.symm).1
  rw [this]
  unfold rateS
  have h1 : (if (124 :: t : List UInt8).head? = some 124 then 1 else 0) = 1:=rfl
  have h2 : decide ((124 :: t : List UInt8).head? = some 124) = true:=rfl
  have hd1 : s.drop (name.length + 1 + value.length + 1 + word.length + 1 + 1) = t.drop 1:=by rw [← List.drop_drop,hd]
  rw [h1,h2,if_neg (by simp),hd,hd1]
  repeat' split
  all_goals first | rfl | (exfalso; simp_all)
theorem zg1 (s : List UInt8) : (∃ c a : Int,sdParse s = some (badM c a) ∧ c ≠ 0 ∧ 0 ≤ a ∧ a ≤ s.length) ∨
    (∃ name value word tail d r,s = name ++ 58 :: (value ++ 124 :: (word ++ tail)) ∧ nameOK name = true ∧ (124 : UInt8) ∉ value ∧ parseR value = ((d.1,d.2.1,d.2.2,()),(0,0,()),()) ∧ ¬ kindOf word = 0 ∧ ¬ (kindOf word = 2 ∧ value.head? = some 45) ∧
      (tail = [] ∧ r = 1000000 ∨ ∃ rt,tail = 124 :: 64 :: rt ∧ (rateR rt).2.1.1 = 0 ∧ (rateR rt).1 = r ∧ (kindOf word = 2→r = 1000000) ∧ (124 : UInt8) ∉ rt) ∧ sdParse s = some (OkR name (kindOf word) d r)):=by
  by_cases hn : nameOK (seg 58 s) = true
  · by_cases h58 : (58 : UInt8) ∈ s
    · have hsp:=zbu h58
      have hlt:=za6 h58
      generalize hname : seg 58 s = name at *
      generalize ht : s.drop (name.length + 1) = t at *
      have htl : t.length + (name.length + 1) = s.length:=by rw [← ht]; simp; omega
      have hn0 : ¬ ¬ (textF 1 name 1 200).1 = 0:=by unfold nameOK at hn; simpa using hn
      have hq : nextP 58 s 0 = name.length + 1:=by unfold nextP; rw [List.drop_zero,if_pos h58,hname]; omega
      have e1 : sdParse s = valueS finK s name (seg 124 t) (name.length + 1) 1000000 [] 0 (decide (124 ∈ t)) (nextP 124 s (name.length + 1)):=by
        unfold sdParse nameS
        rw [hname,if_neg hn0,decide_eq_true h58,if_neg (by simp),hq,ht]
      by_cases hv : (parseR (seg 124 t)).2.1.1 = 0
      · by_cases hb : (124 : UInt8) ∈ t
        · have hsp2:=zbu hb
          have hlt2:=za6 hb
          have hfree:=zg0 124 t
          generalize hvalue : seg 124 t = value at *
          generalize ht2 : t.drop (value.length + 1) = t2 at *
          have hd2 : s.drop (name.length + 1 + value.length + 1) = t2:=by rw [Nat.add_assoc (name.length + 1),← List.drop_drop,ht,ht2]
          have htl2 : t2.length + (value.length + 1) = t.length:=by rw [← ht2]; simp; omega
          have hq2 : nextP 124 s (name.length + 1) = name.length + 1 + value.length + 1:=by unfold nextP; rw [ht,if_pos hb,hvalue]
          have e2 : sdParse s = kindS finK s name (seg 124 t2) value (name.length + 1 : Nat) (name.length + 1 + value.length + 1 : Nat) [((parseR value).1.1,(parseR value).1.2.1,(parseR value).1.2.2.1)] 1000000 [] 0 (decide (124 ∈ t2)) (nextP 124 s (name.length + 1 + value.length + 1)):=by
            rw [e1]
            unfold valueS
            rw [if_neg (fun h => h hv),decide_eq_true hb,if_neg (by simp),hq2,hd2]
          by_cases hk : kindOf (seg 124 t2) = 0
          · left
            refine ⟨16,((name.length + 1 + value.length + 1 : Nat) : Int),?_,by decide,by omega,by omega⟩
            rw [e2]
            unfold kindS
            rw [if_pos hk]; rfl
          by_cases hg : kindOf (seg 124 t2) = 2 ∧ value.head? = some 45
          · left
            refine ⟨26,((name.length + 1 : Nat) : Int),?_,by decide,by omega,by omega⟩
            rw [e2]
            unfold kindS
            rw [if_neg hk,if_pos hg]; rfl
          have hat:=zce hv
          have hp : parseR value = (((((parseR value).1.1,(parseR value).1.2.1,(parseR value).1.2.2.1) : DecL).1,(parseR value).1.2.1,(parseR value).1.2.2.1,()),(0,0,()),()):=by
            generalize parseR value = z at hv hat
            obtain ⟨⟨a,b,c,_⟩,⟨x,y,_⟩,_⟩:=z
            simp only at hv hat
            subst hv hat
            rfl
          by_cases hb2 : (124 : UInt8) ∈ t2
          · have hsp3:=zbu hb2
            generalize hword : seg 124 t2 = word at *
            generalize ht3 : t2.drop (word.length + 1) = t3 at *
            have hlt3 : word.length + 1 + t3.length = t2.length:=by
              have:=congrArg List.length hsp3
              simp at this
              omega
            have hs : s = name ++ 58 :: (value ++ 124 :: (word ++ 124 :: t3)):=by rw [← hsp3,← hsp2,← hsp]
            have L:=zoo hn hfree hp hk hg t3
            rw [← hs] at L
            by_cases c1 : t3.head? = some 64
            · rw [if_neg (fun h => h c1)] at L
              obtain ⟨t4,ht4⟩ : ∃ t4,t3 = 64 :: t4:=by
                cases t3 with
                | nil => simp at c1
                | cons b t => exact ⟨t,by simp at c1; rw [c1]⟩
              subst ht4
              simp only [List.drop_succ_cons,List.drop_zero,List.length_cons] at L hlt3
              by_cases c2 : ¬ (rateR (seg 124 t4)).2.1.1 = 0 ∨ (kindOf word = 2 ∧ ¬ (rateR (seg 124 t4)).1 = 1000000)
              · rw [if_pos c2] at L
                exact Or.inl ⟨18,_,L,by decide,by omega,by omega⟩
              rw [if_neg c2] at L
              by_cases c3 : (124 : UInt8) ∈ t4
              · rw [if_pos c3] at L
                have:=za6 c3
                exact Or.inl ⟨11,_,L,by decide,by omega,by omega⟩
              rw [if_neg c3,za7 c3] at L
              rw [za7 c3] at c2
              refine Or.inr ⟨name,value,word,124 :: 64 :: t4,_,_,hs,hn,hfree,hp,hk,hg,Or.inr ⟨t4,rfl,?_,rfl,fun h2 => ?_,c3⟩,L⟩
              · exact Classical.byContradiction fun h => c2 (Or.inl h)
              · exact Classical.byContradiction fun h => c2 (Or.inr ⟨h2,h⟩)
            · rw [if_pos c1] at L
              exact Or.inl ⟨11,_,L,by decide,by omega,by omega⟩
          · have hw : seg 124 t2 = t2:=za7 hb2
            rw [hw] at hk hg
            have hs : s = name ++ 58 :: (value ++ 124 :: (t2 ++ [])):=by rw [List.append_nil,← hsp2,← hsp]
            have L:=zl6 hn hfree hp hk hg
            have hs':=hs
            rw [List.append_nil] at hs'
            rw [← hs'] at L
            exact Or.inr ⟨name,value,t2,[],_,_,hs,hn,hfree,hp,hk,hg,Or.inl ⟨rfl,rfl⟩,L⟩
        · left
          refine ⟨11,(s.length : Int),?_,by decide,by omega,by omega⟩
          rw [e1]
          unfold valueS
          rw [if_neg (fun h => h hv),decide_eq_false hb,if_pos rfl]; rfl
      · left
        refine ⟨17,((name.length + 1 : Nat) : Int),?_,by decide,by omega,by omega⟩
        rw [e1]
        unfold valueS
        rw [if_pos hv]; rfl
    · left
      refine ⟨11,(s.length : Int),?_,by decide,by omega,by omega⟩
      unfold sdParse nameS
      have hn0 : ¬ ¬ (textF 1 (seg 58 s) 1 200).1 = 0:=by unfold nameOK at hn; simpa using hn
      rw [if_neg hn0,decide_eq_false h58,if_pos rfl]; rfl
  · left
    refine ⟨15,0,?_,by decide,by omega,by omega⟩
    unfold sdParse nameS
    rw [if_pos (fun h => hn (by unfold nameOK; simp [h]))]; rfl
end Go.AM
set_option linter.unusedVariables false
set_option linter.unusedSimpArgs false
namespace Go.AM
def parseNum (s : List UInt8) (lo hi : Int) : NumR:=
  if s = [] then numR 0 13 0 else if 0 ≤ badK isDig 0 s then numR 0 14 (badK isDig 0 s) else if s.head? = some 48 ∧ 1 < s.length then numR 0 11 0
  else if 9223372036854775808 ≤ val s ∨ (val s : Int) < lo ∨ (val s : Int) > hi then numR 0 10 0 else numR (val s) 0 0
theorem zy0 (n : Nat) {s : List UInt8} (hd : Digs s) (hn : s ≠ []) (hs : s.length ≤ 1000000) : O.atoi n s = some (if val s < 9223372036854775808 then ((val s : Int),false,()) else (Lib.atoiSat s,true,())):=by
  unfold O.atoi
  have : Nat.ble s.length big47 = true:=by rw [Nat.ble_eq]; unfold big47; omega
  rw [this,cond_true,zrl hd hn]
  by_cases h : val s < 9223372036854775808
  · rw [if_pos h,if_pos h]
  · rw [if_neg h,if_neg h]
theorem zsa (n : Nat) (s : List UInt8) (lo hi : Int) (hs : s.length ≤ 1000000) (hn : s.length < n) : F.zbo n s lo hi = some (parseNum s lo hi):=by
  unfold F.zbo parseNum
  rw [zbe n 4 s _ _ (by omega) hn,za,textF4 s (by omega)]
  by_cases h0 : s = []
  · rw [if_pos h0,if_pos h0]; rfl
  rw [if_neg h0,if_neg h0]
  by_cases h1 : 0 ≤ badK isDig 0 s
  · rw [if_pos h1,if_pos h1]; rfl
  rw [if_neg h1,if_neg h1]
  have e : (!((0 : Int) == 0 && (0 : Int) == 0)) = false:=rfl
  simp only [e,cond_false]
  have hd:=zb9 h1
  cases s with
  | nil => exact absurd rfl h0
  | cons b r =>
    have ei : idx (b :: r) (0 : Int) = some b:=rfl
    rw [ei,za,zy0 n hd h0 hs,za]
    have tail : ∀ (p : Bool) (A : Option NumR),(bif p then A else A) = A:=by intro p A; cases p <;> rfl
    have core : (bif (if val (b :: r) < 9223372036854775808 then ((val (b :: r) : Int),false,()) else (Lib.atoiSat (b :: r),true,())).2.1 then (F.zac n 10 0).bind fun y6 => some ((y6.1,(y6.2.1.1,y6.2.1.2.1,()),()))
        else bif decide ((if val (b :: r) < 9223372036854775808 then ((val (b :: r) : Int),false,()) else (Lib.atoiSat (b :: r),true,())).1 < lo) then (F.zac n 10 0).bind fun y6 => some ((y6.1,(y6.2.1.1,y6.2.1.2.1,()),()))
        else bif decide ((if val (b :: r) < 9223372036854775808 then ((val (b :: r) : Int),false,()) else (Lib.atoiSat (b :: r),true,())).1 > hi) then (F.zac n 10 0).bind fun y6 => some ((y6.1,(y6.2.1.1,y6.2.1.2.1,()),()))
        else some (((if val (b :: r) < 9223372036854775808 then ((val (b :: r) : Int),false,()) else (Lib.atoiSat (b :: r),true,())).1,((0 : Int),(0 : Int),()),())))
        = some (if 9223372036854775808 ≤ val (b :: r) ∨ (val (b :: r) : Int) < lo ∨ (val (b :: r) : Int) > hi then numR 0 10 0 else numR (val (b :: r)) 0 0):=by
      by_cases hv : val (b :: r) < 9223372036854775808
      · rw [if_pos hv]
        simp only [cond_false]
        by_cases g1 : (val (b :: r) : Int) < lo
        · rw [zd g1,if_pos (Or.inr (Or.inl g1))]; rfl
        · rw [zg g1]
          by_cases g2 : (val (b :: r) : Int) > hi
          · rw [zd g2,if_pos (Or.inr (Or.inr g2))]; rfl
          · rw [zg g2,if_neg (by omega)]; rfl
      · rw [if_neg hv,if_pos (Or.inl (by omega))]; rfl
    by_cases hb : b = 48
    · subst hb
      have e2 : ((((48 : UInt8).toNat : Nat) : Int) == 48) = true:=rfl
      rw [e2,cond_true]
      by_cases hl : 1 < (48 :: r).length
      · rw [zd (by omega),if_pos (show (48 :: r).head? = some 48 ∧ 1 < (48 :: r).length from ⟨rfl,hl⟩)]; rfl
      · rw [zg (by omega),if_neg (show ¬ ((48 :: r).head? = some 48 ∧ 1 < (48 :: r).length) from fun h => hl h.2)]; exact core
    · have e2 : ((b.toNat : Int) == 48) = false:=by
        have : ¬ (b.toNat : Int) = 48:=fun h => hb (zlo (by simp; omega))
        simpa using this
      rw [e2,cond_false,if_neg (show ¬ ((b :: r).head? = some 48 ∧ 1 < (b :: r).length) from fun h => hb (by simpa using h.1))]; exact core
theorem zop (n : Nat) (s : List UInt8) (hs : s.length ≤ 1000000) (hn : s.length < n) : F.zbk n s = some (parseNum s 1 1099511627776):=by
  unfold F.zbk
  rw [zsa n s _ _ hs hn,za]
def numText (k : Int) : List UInt8 × Int × Unit:=if k < 0 then ([],10,()) else (Lib.decDigits k.toNat,0,())
theorem zl7 (n : Nat) (k : Int) (h : -9223372036854775808 ≤ k ∧ k ≤ 9223372036854775807) : F.zbh n k = some (numText k):=by
  unfold F.zbh numText
  by_cases h0 : k < 0
  · rw [zd h0,if_pos h0]
  · rw [zg h0,if_neg h0]
    unfold O.itoa
    have : (decide (-9223372036854775808 ≤ k) && decide (k ≤ 9223372036854775807)) = true:=by simp [h]
    rw [this,cond_true,za]
    unfold Lib.itoa
    rw [if_neg h0]
theorem zu9 (u : Nat) : (Lib.decDigits u).head? = some 48→¬ 1 < (Lib.decDigits u).length:=fun h hl => by
  have:=(zim u).2 h
  omega
theorem zl8 (u : Nat) (hu : u < 9223372036854775808) (lo hi : Int) : parseNum (Lib.decDigits u) lo hi = if (u : Int) < lo ∨ (u : Int) > hi then numR 0 10 0 else numR u 0 0:=by
  unfold parseNum
  rw [if_neg (zde u),if_neg (by rw [zgi (zaa u)]; omega),if_neg (fun h => zu9 u h.1 h.2),zat]
  by_cases h : (u : Int) < lo ∨ (u : Int) > hi
  · rw [if_pos h,if_pos (Or.inr h)]
  · rw [if_neg h,if_neg (by omega)]
theorem zcq {s : List UInt8} {lo hi : Int} (h : (parseNum s lo hi).2.1.1 = 0) : (parseNum s lo hi).2.1.2.1 = 0 ∧ (parseNum s lo hi).1 = (val s : Int) ∧ val s < 9223372036854775808 ∧ lo ≤ (val s : Int) ∧ (val s : Int) ≤ hi ∧ Digs s ∧ Norm s:=by
  unfold parseNum at h ⊢
  by_cases h0 : s = []
  · rw [if_pos h0] at h; cases h
  rw [if_neg h0] at h ⊢
  by_cases h1 : 0 ≤ badK isDig 0 s
  · rw [if_pos h1] at h; cases h
  rw [if_neg h1] at h ⊢
  by_cases h2 : s.head? = some 48 ∧ 1 < s.length
  · rw [if_pos h2] at h; cases h
  rw [if_neg h2] at h ⊢
  by_cases h3 : 9223372036854775808 ≤ val s ∨ (val s : Int) < lo ∨ (val s : Int) > hi
  · rw [if_pos h3] at h; cases h
  rw [if_neg h3]
  refine ⟨rfl,rfl,by omega,by omega,by omega,zb9 h1,h0,fun h => ?_⟩
  have h4 : ¬ 1 < s.length:=fun hl => h2 ⟨h,hl⟩
  have : 0 < s.length:=List.length_pos_iff.2 h0
  omega
end Go.AM
