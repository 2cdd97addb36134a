/- Part 5 of a proof by the abstract machine. -/
import Derived.Test.YthpnjohdecdlkaaGreatDoorQ4
import Derived.KernelRfl
import Derived.Test.YthpnjohdecdlkaaGreatDoorRows
import Derived.Test.YthpnjohdecdlkaaGreatDoorProg
import Derived.Shelf.Spec.BitsCarry
import Derived.Lib.ItoaNum
import Derived.Lib.ItoaLen
import Derived.Lib.AtoiAll
import Derived.Lib.TrimByte
set_option linter.unusedVariables false
set_option maxRecDepth 100000
namespace Go.AM
open Go.Proofs Go.RowKit
open Go.Proofs.YthpnjohdecdlkaaGreatDoor
def SI : World→Prop:=LaidI Tryz.prog Rows.splitBatchesRow.laid
def SW : World→Prop:=WOf SI
theorem swTab {w : World} (h : SW w) : Lib.TabIs Tryz.prog w (Rows.splitBatchesRow.laid.getD 2 ("", .nil)).1 .u64 Lib.pow10Tab := by
  obtain ⟨w0,h1,h2,h3⟩:=h
  exact zxu (zsa h1 (by kernel_rfl) 2 (by kernel_rfl) (g:=1) (by kernel_rfl) (by kernel_rfl) Tryz.underlying284 Tryz.underlying62 (by kernel_rfl) (by kernel_rfl)) h2 h3
theorem mixed : Tryz.prog.follows .mixedOrders = true:=by kernel_rfl
abbrev V0 : SV:=.int .i64
abbrev Y0 : Ty:=.int .u64
abbrev Y1 : Ty:=.int .i64
abbrev Y2 : Ty:=.agg [.bool,Y0,Y1]
abbrev V1 : SV:=.sl Y2 .unk
abbrev Y3 : Ty:=.agg [.str,.str]
abbrev V2 : SV:=.sl Y3 .unk
abbrev V3 : SV:=.agg [.str,V0,V1,V0,V2,V0]
abbrev Y4 : Ty:=.sl Y2
abbrev Y5 : Ty:=.sl Y3
abbrev Y6 : Ty:=.agg [.str,Y1,Y4,Y1,Y5,Y1]
abbrev V4 : SV:=.sl Y6 .unk
abbrev V5 : SV:=.sl (.sl .u8) .unk
abbrev V6 : SV:=.sl .str .unk
abbrev V7 : SV:=.sl .u8 .unk
abbrev V8 : SV:=.int .u8
abbrev V9 : SV:=.agg [V0,V0]
abbrev V10 : SV:=.int .u64
abbrev V11 : SV:=.agg [.bool,V10,V0]
abbrev V12 : SV:=.agg [.str,.str]
abbrev V13 : SV:=.agg [(.fn 81 [V3] []),V0,(.fn 82 [V3] []),V0,(.fn 83 [V3] []),V0,(.fn 84 [V3] []),V0,(.fn 85 [V3] []),V0,(.fn 86 [V3] []),V0]
abbrev V14 : SV:=.int .u32
abbrev V15 : SV:=.agg [.str,.str,.str,.str,.str,.str]
abbrev Y7 : Ty:=.sl Y6
abbrev Y8 : Ty:=.int .u32
abbrev Y9 : Ty:=.agg [Y6]
abbrev Y10 : Ty:=.agg [(.sl .str)]
abbrev Y11 : Ty:=.agg [Y1,Y1]
abbrev Y12 : Ty:=.agg [.str,.str,.str,.str,.str,.str]
def tab : Tree TI:=.node 95 (.node 50 (.node 27 (.node 22 (.node 5 (.node 4 (.one 3 ⟨.int .i64,1,8,false,[(.int .i64 (0 : Int))],some Y1,false⟩) (.one 4 ⟨.bool,1,1,false,[(.bool false)],some .bool,false⟩)) (.node 9 (.one 5 ⟨.int .u8,1,1,false,[(.int .u8 (0 : Int))],some .u8,false⟩) (.one 9 ⟨.str,1,16,false,[(.str [])],some .str,false⟩))) (.node 25 (.node 24 (.one 22 ⟨.slice 40,1,24,false,[.sl Y6 [] .full],some Y7,false⟩) (.one 24 ⟨.func,1,8,false,[.nilfn],none,false⟩)) (.node 26 (.one 25 ⟨.slice 42,1,24,false,[.sl (.sl .u8) [] .full],some (.sl (.sl .u8)),false⟩) (.one 26 ⟨.int .i64,1,8,false,[(.int .i64 (0 : Int))],some Y1,false⟩)))) (.node 37 (.node 30 (.node 29 (.one 27 ⟨.other,1,0,false,[.any],none,false⟩) (.one 29 ⟨.slice 9,1,24,false,[.sl .str [] .full],some (.sl .str),false⟩)) (.node 32 (.one 30 ⟨.other,1,0,false,[.any],none,false⟩) (.one 32 ⟨.other,1,0,false,[.any],none,false⟩))) (.node 40 (.node 38 (.one 37 ⟨.slice 98,1,24,false,[.sl Y2 [] .full],some Y4,false⟩) (.one 38 ⟨.slice 50,1,24,false,[.sl Y3 [] .full],some Y5,false⟩)) (.node 42 (.one 40 ⟨.struct [(0,9),(1,3),(2,37),(3,3),(4,38),(5,3)],6,88,true,[(.str []),(.int .i64 (0 : Int)),.sl Y2 [] .full,(.int .i64 (0 : Int)),.sl Y3 [] .full,(.int .i64 (0 : Int))],some Y6,false⟩) (.node 45 (.one 42 ⟨.slice 5,1,24,false,[.sl .u8 [] .full],some (.sl .u8),false⟩) (.one 45 ⟨.other,1,0,false,[.any],none,false⟩)))))) (.node 71 (.node 62 (.node 57 (.node 54 (.one 50 ⟨.struct [(0,9),(1,9)],2,32,true,[(.str []),(.str [])],some Y3,true⟩) (.one 54 ⟨.func,1,8,false,[.nilfn],none,false⟩)) (.node 59 (.one 57 ⟨.other,1,0,false,[.any],none,false⟩) (.one 59 ⟨.ptr,1,8,false,[.nilp],none,false⟩))) (.node 66 (.node 63 (.one 62 ⟨.int .u64,1,8,false,[(.int .u64 (0 : Int))],some Y0,false⟩) (.one 63 ⟨.other,1,0,false,[.any],none,false⟩)) (.node 68 (.one 66 ⟨.int .u32,1,4,false,[(.int .u32 (0 : Int))],some Y8,false⟩) (.node 69 (.one 68 ⟨.func,1,8,false,[.nilfn],none,false⟩) (.one 69 ⟨.func,1,8,false,[.nilfn],none,false⟩))))) (.node 83 (.node 74 (.node 72 (.one 71 ⟨.struct [(0,68),(1,69)],2,16,true,[.nilfn,.nilfn],none,false⟩) (.one 72 ⟨.other,1,0,false,[.any],none,false⟩)) (.node 76 (.one 74 ⟨.other,1,0,false,[.any],none,false⟩) (.one 76 ⟨.other,1,0,false,[.any],none,false⟩))) (.node 88 (.node 87 (.one 83 ⟨.func,1,8,false,[.nilfn],none,false⟩) (.one 87 ⟨.func,1,8,false,[.nilfn],none,false⟩)) (.node 90 (.one 88 ⟨.map 9 3,1,8,false,[.any],none,false⟩) (.node 94 (.one 90 ⟨.struct [(0,29),(1,88)],2,32,true,[.sl .str [] .full,.any],none,false⟩) (.one 94 ⟨.func,1,8,false,[.nilfn],none,false⟩))))))) (.node 136 (.node 112 (.node 103 (.node 101 (.node 98 (.one 95 ⟨.func,1,8,false,[.nilfn],none,false⟩) (.one 98 ⟨.struct [(0,4),(1,62),(2,3)],3,24,true,[(.bool false),(.int .u64 (0 : Int)),(.int .i64 (0 : Int))],some Y2,true⟩)) (.node 102 (.one 101 ⟨.func,1,8,false,[.nilfn],none,false⟩) (.one 102 ⟨.other,1,0,false,[.any],none,false⟩))) (.node 108 (.node 107 (.one 103 ⟨.map 3 101,1,8,false,[.any],none,false⟩) (.one 107 ⟨.struct [(0,40)],6,88,true,[(.str []),(.int .i64 (0 : Int)),.sl Y2 [] .full,(.int .i64 (0 : Int)),.sl Y3 [] .full,(.int .i64 (0 : Int))],some Y9,false⟩)) (.node 110 (.one 108 ⟨.other,1,0,false,[.any],none,false⟩) (.one 110 ⟨.ptr,1,8,false,[.nilp],none,false⟩)))) (.node 125 (.node 118 (.node 116 (.one 112 ⟨.struct [(0,29)],1,24,true,[.sl .str [] .full],some Y10,false⟩) (.one 116 ⟨.ptr,1,8,false,[.nilp],none,false⟩)) (.node 120 (.one 118 ⟨.struct [(0,116),(1,42)],2,32,true,[.nilp,.sl .u8 [] .full],none,false⟩) (.one 120 ⟨.iface,1,16,false,[(.err false)],none,false⟩))) (.node 132 (.node 128 (.one 125 ⟨.func,1,8,false,[.nilfn],none,false⟩) (.one 128 ⟨.other,1,0,false,[.any],none,false⟩)) (.node 133 (.one 132 ⟨.struct [(0,40)],6,88,true,[(.str []),(.int .i64 (0 : Int)),.sl Y2 [] .full,(.int .i64 (0 : Int)),.sl Y3 [] .full,(.int .i64 (0 : Int))],some Y9,false⟩) (.node 134 (.one 133 ⟨.struct [(0,24),(1,26)],2,16,true,[.nilfn,(.int .i64 (0 : Int))],none,false⟩) (.one 134 ⟨.arr 6 133,12,96,true,[.nilfn,(.int .i64 (0 : Int)),.nilfn,(.int .i64 (0 : Int)),.nilfn,(.int .i64 (0 : Int)),.nilfn,(.int .i64 (0 : Int)),.nilfn,(.int .i64 (0 : Int)),.nilfn,(.int .i64 (0 : Int))],none,false⟩)))))) (.node 192 (.node 173 (.node 157 (.node 144 (.one 136 ⟨.other,1,0,false,[.any],none,false⟩) (.one 144 ⟨.struct [(0,26),(1,3)],2,16,true,[(.int .i64 (0 : Int)),(.int .i64 (0 : Int))],some Y11,true⟩)) (.node 158 (.one 157 ⟨.func,1,8,false,[.nilfn],none,false⟩) (.one 158 ⟨.other,1,0,false,[.any],none,false⟩))) (.node 176 (.node 174 (.one 173 ⟨.slice 4,1,24,false,[.sl .bool [] .full],some (.sl .bool),false⟩) (.one 174 ⟨.other,1,0,false,[.any],none,false⟩)) (.node 187 (.one 176 ⟨.func,1,8,false,[.nilfn],none,false⟩) (.node 188 (.one 187 ⟨.func,1,8,false,[.nilfn],none,false⟩) (.one 188 ⟨.other,1,0,false,[.any],none,false⟩))))) (.node 220 (.node 198 (.node 195 (.one 192 ⟨.func,1,8,false,[.nilfn],none,false⟩) (.one 195 ⟨.func,1,8,false,[.nilfn],none,false⟩)) (.node 211 (.one 198 ⟨.func,1,8,false,[.nilfn],none,false⟩) (.one 211 ⟨.arr 6 9,6,96,true,[(.str []),(.str []),(.str []),(.str []),(.str []),(.str [])],some Y12,false⟩))) (.node 232 (.node 222 (.one 220 ⟨.func,1,8,false,[.nilfn],none,false⟩) (.one 222 ⟨.other,1,0,false,[.any],none,false⟩)) (.node 254 (.one 232 ⟨.other,1,0,false,[.any],none,false⟩) (.node 255 (.one 254 ⟨.func,1,8,false,[.nilfn],none,false⟩) (.one 255 ⟨.other,1,0,false,[.any],none,false⟩)))))))
theorem zxv : tab.all (tiOK Tryz.prog) = true:=by kernel_rfl
abbrev FO (g : Nat) (ps : List SV) (rv : RV) (f : arrL ps (Option rv.den)) : Prop:=FnOK Tryz.prog SW g ps rv (appL ps f)
theorem mx {X : Type} {fns : List (Nat × Func)} {C : List (Nat × (List AV→Option Entry))} {loops : List (Nat × Nat × List (LoopI X))} {rfs : List (Nat × Nat × Func × List Nat × Nat)}
    {conf : List (Nat × Nat × List (Nat × Nat))} {unroll : List (Nat × Nat × Nat)} {cuts : List (Nat × Nat × List (CutI X))} {rows : List (Nat × Ty)} {pr : List (Nat × Pr)} {bt : Option (Nat × Nat)} {keep : List Nat} (hf : AllT (fun p => Tryz.prog.funcs[p.1]? = some p.2 ∧ p.2.name ≠ "runtime.NumGoroutine") fns)
    (hC : AllT (fun p => OrcOK Tryz.prog SW p.1 p.2) C) (hc : AllT (fun p => okC (mkCx tab.get fns C loops rfs conf unroll cuts rows pr bt keep) p.1 p.2.ntmps (p.2.body.getD .skip)) fns) (hr : AllT (fun q => Tryz.prog.funcs[q.1]? = some q.2.2.1 ∧ lkp fns q.1 = some q.2.2.1) rfs)
    (hp : AllT (fun p => PrOK Tryz.prog SW p.1 p.2) pr:=by exact trivial) : CxOK Tryz.prog SW (mkCx tab.get fns C loops rfs conf unroll cuts rows pr bt keep):=zu7 mixed (tabOK zxv) hf hC hc hr hp
def qh1 : Shape:=⟨[(1,(.const (.ref 0 0))),(3,V0)],[[.str,V0,V1,V0,V2,V0]],[],[],[],1,0,0⟩
def qe1_0 : Shape:=⟨[],[[.str,V0,V1,V0,V2,V0]],[],[],[],1,0,0⟩
def qe1_r : Shape:=⟨[(2,.bool)],[[.str,V0,V1,V0,V2,V0]],[],[],[],1,0,0⟩
noncomputable def ql1 (X : Type) (n : Nat) : LoopI X:=mkLi 8 0 0 0 qh1 [(0,qe1_0)] [qe1_r] n fun m ks => F.zam.L4 n (xe qe1_0 ks 0) (xr qe1_r ks) m
noncomputable def cx11 (X : Type) (n : Nat) : Cx X:=mkCx tab.get [(11,Tryz.f11)] [] [(11,4,[ql1 X n])] [] [] []
theorem qo1 (X : Type) (n : Nat) : LO (cx11 X n) 11 Tryz.f11 0 (ql1 X n):=lok
theorem zve (X : Type) (n : Nat) : CxOK Tryz.prog SW (cx11 X n):=mx (T1 (J Tryz.func11 (by decide))) trivial (T1 (okc (T1 (T1 (qo1 X n))) trivial)) trivial
abbrev P11 : List SV:=[V3]
abbrev R11 : RV:=.one .bool
theorem ok11 (n : Nat) : FO 11 P11 R11 (F.zam n):=zf WOf.st (zve _ n) (d:=8) fun _ => by kernel_rfl
noncomputable def o11 (n : Nat):=oc 11 P11 R11 (F.zam n)
def qh2 : Shape:=⟨[(0,V4),(3,V0)],[],[],[],[],0,0,0⟩
def qe2_0 : Shape:=⟨[(0,V4)],[],[],[],[],0,0,0⟩
def qe2_r : Shape:=⟨[(2,.bool)],[],[],[],[],0,0,0⟩
noncomputable def ql2 (X : Type) (n : Nat) : LoopI X:=mkLi 8 0 0 0 qh2 [(0,qe2_0)] [qe2_r] n fun m ks => F.zar.L2 n (xe qe2_0 ks 0) (xr qe2_r ks) m
noncomputable def cx4 (X : Type) (n : Nat) : Cx X:=mkCx tab.get [(4,Tryz.f4)] [o11 n] [(4,2,[ql2 X n])] [] [] []
theorem qo2 (X : Type) (n : Nat) : LO (cx4 X n) 4 Tryz.f4 0 (ql2 X n):=lok
theorem zxw (X : Type) (n : Nat) : CxOK Tryz.prog SW (cx4 X n):=mx (T1 (J Tryz.func4 (by decide))) (T1 (zb (ok11 n))) (T1 (okc (T1 (T1 (qo2 X n))) trivial)) trivial
abbrev P4 : List SV:=[V4]
abbrev R4 : RV:=.one .bool
theorem ok4 (n : Nat) : FO 4 P4 R4 (F.zar n):=zf WOf.st (zxw _ n) (d:=8) fun _ => by kernel_rfl
noncomputable def o4 (n : Nat):=oc 4 P4 R4 (F.zar n)
def qh3 : Shape:=⟨[(0,V5),(1,V6),(5,V0)],[],[],[],[],0,0,0⟩
def qe3_0 : Shape:=⟨[],[],[],[],[],0,0,0⟩
def qe3_r : Shape:=⟨[(4,.bool)],[],[],[],[],0,0,0⟩
noncomputable def ql3 (X : Type) (n : Nat) : LoopI X:=mkLi 8 0 0 0 qh3 [(0,qe3_0)] [qe3_r] n fun m ks => F.zaf.L4 n (fun _ => xe qe3_0 ks 0) (xr qe3_r ks) m
noncomputable def cx10 (X : Type) (n : Nat) : Cx X:=mkCx tab.get [(10,Tryz.f10)] [] [(10,4,[ql3 X n])] [] [] []
theorem qo3 (X : Type) (n : Nat) : LO (cx10 X n) 10 Tryz.f10 0 (ql3 X n):=lok
theorem zvf (X : Type) (n : Nat) : CxOK Tryz.prog SW (cx10 X n):=mx (T1 (J Tryz.func10 (by decide))) trivial (T1 (okc (T1 (T1 (qo3 X n))) trivial)) trivial
abbrev P10 : List SV:=[V5,V6]
abbrev R10 : RV:=.one .bool
theorem ok10 (n : Nat) : FO 10 P10 R10 (F.zaf n):=zf WOf.st (zvf _ n) (d:=8) fun _ => by kernel_rfl
noncomputable def o10 (n : Nat):=oc 10 P10 R10 (F.zaf n)
noncomputable def cx14 (X : Type) (n : Nat) : Cx X:=mkCx tab.get [(14,Tryz.f14)] [] [] [] [] []
theorem zvg (X : Type) (n : Nat) : CxOK Tryz.prog SW (cx14 X n):=mx (T1 (J Tryz.func14 (by decide))) trivial (T1 (okc trivial trivial)) trivial
abbrev P14 : List SV:=[V0]
abbrev R14 : RV:=.one .bool
theorem ok14 (n : Nat) : FO 14 P14 R14 (F.zb0 n):=zf WOf.st (zvg _ n) (d:=8) fun _ => by kernel_rfl
noncomputable def o14 (n : Nat):=oc 14 P14 R14 (F.zb0 n)
abbrev P73 : List SV:=[.str,.str]
abbrev R73 : RV:=.one V0
theorem ok73 (n : Nat) : FO 73 P73 R73 (O.index1 n):=zp6 (enters Tryz.func73 (by kernel_rfl) (by decide)) Tryz.stringslite_Index_one n
noncomputable def o73 (n : Nat):=oc 73 P73 R73 (O.index1 n)
noncomputable def cx41 (X : Type) (n : Nat) : Cx X:=mkCx tab.get [(41,Tryz.f41)] [o73 n] [] [] [] []
theorem zvh (X : Type) (n : Nat) : CxOK Tryz.prog SW (cx41 X n):=mx (T1 (J Tryz.func41 (by decide))) (T1 (zb (ok73 n))) (T1 (okc trivial trivial)) trivial
abbrev P41 : List SV:=[.str,.str]
abbrev R41 : RV:=.one V0
theorem ok41 (n : Nat) : FO 41 P41 R41 (F.zby n):=zf WOf.st (zvh _ n) (d:=8) fun _ => by kernel_rfl
noncomputable def o41 (n : Nat):=oc 41 P41 R41 (F.zby n)
noncomputable def cx21 (X : Type) (n : Nat) : Cx X:=mkCx tab.get [(21,Tryz.f21)] [o41 n] [] [] [] []
theorem zvi (X : Type) (n : Nat) : CxOK Tryz.prog SW (cx21 X n):=mx (T1 (J Tryz.func21 (by decide))) (T1 (zb (ok41 n))) (T1 (okc trivial trivial)) trivial
abbrev P21 : List SV:=[.str,.str]
abbrev R21 : RV:=.one .bool
theorem ok21 (n : Nat) : FO 21 P21 R21 (F.za9 n):=zf WOf.st (zvi _ n) (d:=8) fun _ => by kernel_rfl
noncomputable def o21 (n : Nat):=oc 21 P21 R21 (F.za9 n)
abbrev P44 : List SV:=[V6,.str]
abbrev R44 : RV:=.one .str
theorem ok44 (n : Nat) : FO 44 P44 R44 (O.join n):=zu8 (enters Tryz.func44 (by kernel_rfl) (by decide)) Tryz.strings_Join_none Tryz.strings_Join n
noncomputable def o44 (n : Nat):=oc 44 P44 R44 (O.join n)
def qh4 : Shape:=⟨[(0,V6),(1,V0),(12,V6),(13,V0),(14,V0)],[],[],[],[],0,0,0⟩
def qe4_0 : Shape:=⟨[(0,V6),(1,V0)],[],[],[],[],0,0,0⟩
def qe4_r : Shape:=⟨[(4,(.sl (.sl .u8) (.own 0))),(5,V0),(6,V0)],[],[true],[],[],0,0,0⟩
noncomputable def ql4 (X : Type) (n : Nat) : LoopI X:=mkLi 8 0 0 0 qh4 [(0,qe4_0)] [qe4_r] n fun m ks => F.zj.L4 n (xe qe4_0 ks 0) (xr qe4_r ks) m
def qh5 : Shape:=⟨[(0,(.const (.yield 0))),(2,(.const (.ref 1 0))),(4,(.sl .u8 (.own 0))),(5,V0),(6,V0),(14,V6),(15,V0),(16,V0)],[[V6],[V0],[(.sl (.sl .u8) (.own 1))]],[true,true],[.ready],[(0,42,2,[(2,(.const (.ref 2 0)))])],3,0,1⟩
def qe5_0 : Shape:=⟨[(0,(.const (.yield 0))),(4,(.sl .u8 (.own 0))),(5,V0),(6,V0)],[[V6],[V0],[(.sl (.sl .u8) (.own 1))]],[true,true],[.ready],[],3,0,1⟩
noncomputable def ql5 (X : Type) (n : Nat) : LoopI X:=mkLi 5 3 0 1 qh5 [(0,qe5_0)] [] n fun m ks => F.zj.L3_split_datagrams_1 n (xe qe5_0 ks 0) m
noncomputable def cx12 (X : Type) (n : Nat) : Cx X:=mkCx tab.get [(12,Tryz.f12),(22,Tryz.f22),(23,Tryz.f23),(42,Tryz.f42),(43,Tryz.f43)] [o14 n,o21 n,o44 n] [(12,4,[ql4 X n]),(43,3,[ql5 X n])] [(42,2,Tryz.f42,[2],0)] [] []
theorem qo4 (X : Type) (n : Nat) : LO (cx12 X n) 12 Tryz.f12 0 (ql4 X n):=lok
theorem qo5 (X : Type) (n : Nat) : LO (cx12 X n) 43 Tryz.f43 0 (ql5 X n):=lok
theorem zvj (X : Type) (n : Nat) : CxOK Tryz.prog SW (cx12 X n):=mx (J (J Tryz.func12 (by decide)) (J (J Tryz.func22 (by decide)) (J (J Tryz.func23 (by decide)) (J (J Tryz.func42 (by decide)) (T1 (J Tryz.func43 (by decide))))))) (J (zb (ok14 n)) (J (zb (ok21 n)) (T1 (zb (ok44 n))))) (J (okc (T1 (T1 (qo4 X n))) trivial) (J (okc trivial trivial) (J (okc trivial trivial) (J (okc trivial (T1 (rfo (cx:=cx12 X n) (g:=42) (i:=2) (lv:=[2]) (show _ = some (Tryz.f42.ntmps,_,rfNo Tryz.f42 0) by kernel_rfl)))) (T1 (okc (T1 (T1 (qo5 X n))) trivial)))))) (T1 (J Tryz.func42 rfl))
abbrev P12 : List SV:=[V6,V0]
abbrev R12 : RV:=.many [V5,V0,V0]
theorem ok12 (n : Nat) : FO 12 P12 R12 (F.zj n):=zf WOf.st (zvj _ n) (d:=8) fun _ => by kernel_rfl
noncomputable def o12 (n : Nat):=oc 12 P12 R12 (F.zj n)
abbrev P24 : List SV:=[V5,V7]
abbrev R24 : RV:=.one V7
theorem ok24 (n : Nat) : FO 24 P24 R24 (O.bjoin n):=zr4 (enters Tryz.func24 (by kernel_rfl) (by decide)) (fun p c sv w => ⟨_,Tryz.bytes_Join_none p c sv w⟩) Tryz.bytes_Join_one Tryz.bytes_Join_one_empty Tryz.bytes_Join_many n
noncomputable def o24 (n : Nat):=oc 24 P24 R24 (O.bjoin n)
noncomputable def cx13 (X : Type) (n : Nat) : Cx X:=mkCx tab.get [(13,Tryz.f13)] [o24 n] [] [] [] []
theorem zvk (X : Type) (n : Nat) : CxOK Tryz.prog SW (cx13 X n):=mx (T1 (J Tryz.func13 (by decide))) (T1 (zb (ok24 n))) (T1 (okc trivial trivial)) trivial
abbrev P13 : List SV:=[V5]
abbrev R13 : RV:=.one V7
theorem ok13 (n : Nat) : FO 13 P13 R13 (F.zb6 n):=zf WOf.st (zvk _ n) (d:=8) fun _ => by kernel_rfl
noncomputable def o13 (n : Nat):=oc 13 P13 R13 (F.zb6 n)
noncomputable def cx5 (X : Type) (n : Nat) : Cx X:=mkCx tab.get [(5,Tryz.f5)] [o10 n,o12 n,o13 n] [] [] [] []
theorem zxx (X : Type) (n : Nat) : CxOK Tryz.prog SW (cx5 X n):=mx (T1 (J Tryz.func5 (by decide))) (J (zb (ok10 n)) (J (zb (ok12 n)) (T1 (zb (ok13 n))))) (T1 (okc trivial trivial)) trivial
abbrev P5 : List SV:=[]
abbrev R5 : RV:=.one .bool
theorem ok5 (n : Nat) : FO 5 P5 R5 (F.zbj n):=zf WOf.st (zxx _ n) (d:=8) fun _ => by kernel_rfl
noncomputable def o5 (n : Nat):=oc 5 P5 R5 (F.zbj n)
noncomputable def cx206 (X : Type) (n : Nat) : Cx X:=mkCx tab.get [(206,Tryz.f206)] [] [] [] [] []
theorem zsb (X : Type) (n : Nat) : CxOK Tryz.prog SW (cx206 X n):=mx (T1 (J Tryz.func206 (by decide))) trivial (T1 (okc trivial trivial)) trivial
abbrev P206 : List SV:=[V0]
abbrev R206 : RV:=.one .bool
theorem ok206 (n : Nat) : FO 206 P206 R206 (F.zcf n):=zf WOf.st (zsb _ n) (d:=8) fun _ => by kernel_rfl
noncomputable def o206 (n : Nat):=oc 206 P206 R206 (F.zcf n)
noncomputable def cx241 (X : Type) (n : Nat) : Cx X:=mkCx tab.get [(241,Tryz.f241)] [] [] [] [] []
theorem zsc (X : Type) (n : Nat) : CxOK Tryz.prog SW (cx241 X n):=mx (T1 (J Tryz.func241 (by decide))) trivial (T1 (okc trivial trivial)) trivial
abbrev P241 : List SV:=[V8,V8,V8]
abbrev R241 : RV:=.one .bool
theorem ok241 (n : Nat) : FO 241 P241 R241 (F.zal n):=zf WOf.st (zsc _ n) (d:=8) fun _ => by kernel_rfl
noncomputable def o241 (n : Nat):=oc 241 P241 R241 (F.zal n)
noncomputable def cx207 (X : Type) (n : Nat) : Cx X:=mkCx tab.get [(207,Tryz.f207)] [o241 n] [] [] [] []
theorem zsd (X : Type) (n : Nat) : CxOK Tryz.prog SW (cx207 X n):=mx (T1 (J Tryz.func207 (by decide))) (T1 (zb (ok241 n))) (T1 (okc trivial trivial)) trivial
abbrev P207 : List SV:=[V0,V8]
abbrev R207 : RV:=.one .bool
theorem ok207 (n : Nat) : FO 207 P207 R207 (F.zcj n):=zf WOf.st (zsd _ n) (d:=8) fun _ => by kernel_rfl
noncomputable def o207 (n : Nat):=oc 207 P207 R207 (F.zcj n)
def qh6 : Shape:=⟨[(0,V0),(1,.str),(11,V0),(12,V0)],[],[],[],[],0,0,0⟩
def qe6_0 : Shape:=⟨[],[],[],[],[],0,0,0⟩
def qe6_r : Shape:=⟨[(4,V0),(5,V0)],[],[],[],[],0,0,0⟩
noncomputable def ql6 (X : Type) (n : Nat) : LoopI X:=mkLi 8 0 0 0 qh6 [(0,qe6_0)] [qe6_r] n fun m ks => F.zan.L4 n (fun _ => xe qe6_0 ks 0) (xr qe6_r ks) m
noncomputable def cx159 (X : Type) (n : Nat) : Cx X:=mkCx tab.get [(159,Tryz.f159)] [o206 n,o207 n] [(159,4,[ql6 X n])] [] [] []
theorem qo6 (X : Type) (n : Nat) : LO (cx159 X n) 159 Tryz.f159 0 (ql6 X n):=lok
theorem zse (X : Type) (n : Nat) : CxOK Tryz.prog SW (cx159 X n):=mx (T1 (J Tryz.func159 (by decide))) (J (zb (ok206 n)) (T1 (zb (ok207 n)))) (T1 (okc (T1 (T1 (qo6 X n))) trivial)) trivial
abbrev P159 : List SV:=[V0,.str]
abbrev R159 : RV:=.many [V0,V0]
theorem ok159 (n : Nat) : FO 159 P159 R159 (F.zan n):=zf WOf.st (zse _ n) (d:=8) fun _ => by kernel_rfl
noncomputable def o159 (n : Nat):=oc 159 P159 R159 (F.zan n)
noncomputable def cx97 (X : Type) (n : Nat) : Cx X:=mkCx tab.get [(97,Tryz.f97)] [o159 n] [] [] [] []
theorem zvl (X : Type) (n : Nat) : CxOK Tryz.prog SW (cx97 X n):=mx (T1 (J Tryz.func97 (by decide))) (T1 (zb (ok159 n))) (T1 (okc trivial trivial)) trivial
abbrev P97 : List SV:=[V0,.str,V0,V0]
abbrev R97 : RV:=.one V9
theorem ok97 (n : Nat) : FO 97 P97 R97 (F.zbf n):=zf WOf.st (zvl _ n) (d:=8) fun _ => by kernel_rfl
noncomputable def o97 (n : Nat):=oc 97 P97 R97 (F.zbf n)
noncomputable def cx81 (X : Type) (n : Nat) : Cx X:=mkCx tab.get [(81,Tryz.f81)] [o97 n] [] [] [] []
theorem zvm (X : Type) (n : Nat) : CxOK Tryz.prog SW (cx81 X n):=mx (T1 (J Tryz.func81 (by decide))) (T1 (zb (ok97 n))) (T1 (okc trivial trivial)) trivial
abbrev P81 : List SV:=[V3]
abbrev R81 : RV:=.one .bool
theorem ok81 (n : Nat) : FO 81 P81 R81 (F.za1 n):=zf WOf.st (zvm _ n) (d:=8) fun _ => by kernel_rfl
noncomputable def o81 (n : Nat):=oc 81 P81 R81 (F.za1 n)
noncomputable def cx145 (X : Type) (n : Nat) : Cx X:=mkCx tab.get [(145,Tryz.f145)] [] [] [] [] []
theorem zsf (X : Type) (n : Nat) : CxOK Tryz.prog SW (cx145 X n):=mx (T1 (J Tryz.func145 (by decide))) trivial (T1 (okc trivial trivial)) trivial
abbrev P145 : List SV:=[V0,V0,V0]
abbrev R145 : RV:=.one .bool
theorem ok145 (n : Nat) : FO 145 P145 R145 (F.zaz n):=zf WOf.st (zsf _ n) (d:=8) fun _ => by kernel_rfl
noncomputable def o145 (n : Nat):=oc 145 P145 R145 (F.zaz n)
noncomputable def cx82 (X : Type) (n : Nat) : Cx X:=mkCx tab.get [(82,Tryz.f82)] [o145 n] [] [] [] []
theorem zvn (X : Type) (n : Nat) : CxOK Tryz.prog SW (cx82 X n):=mx (T1 (J Tryz.func82 (by decide))) (T1 (zb (ok145 n))) (T1 (okc trivial trivial)) trivial
abbrev P82 : List SV:=[V3]
abbrev R82 : RV:=.one .bool
theorem ok82 (n : Nat) : FO 82 P82 R82 (F.za2 n):=zf WOf.st (zvn _ n) (d:=8) fun _ => by kernel_rfl
noncomputable def o82 (n : Nat):=oc 82 P82 R82 (F.za2 n)
abbrev P191 : List SV:=[V10,V10]
abbrev R191 : RV:=.many [V10,V10]
theorem ok191 (n : Nat) : FO 191 P191 R191 (O.mul64 n):=zr8 (enters Tryz.func191 (by kernel_rfl) (by decide)) Tryz.bits_Mul64 n
noncomputable def o191 (n : Nat):=oc 191 P191 R191 (O.mul64 n)
abbrev P192 : List SV:=[V10,V10,V10]
abbrev R192 : RV:=.many [V10,V10]
theorem ok192 (n : Nat) : FO 192 P192 R192 (O.add64 n):=zr9 (fun x y c hx hy hc w => by rw [run_callFunc_extern Tryz.func192 (by kernel_rfl) (by kernel_rfl) (by kernel_rfl) (e:=Go.add64Entry) (by kernel_rfl),Go.run_add64 x y c (by omega) (by omega) (by omega) (by omega)]; simp only [Result.andThen]; congr 5 <;> omega) n
noncomputable def o192 (n : Nat):=oc 192 P192 R192 (O.add64 n)
noncomputable def cx138 (X : Type) (n : Nat) : Cx X:=mkCx tab.get [(138,Tryz.f138)] [o191 n,o192 n] [] [] [] []
theorem zsg (X : Type) (n : Nat) : CxOK Tryz.prog SW (cx138 X n):=mx (T1 (J Tryz.func138 (by decide))) (J (zb (ok191 n)) (T1 (zb (ok192 n)))) (T1 (okc trivial trivial)) trivial
abbrev P138 : List SV:=[V10,V10]
abbrev R138 : RV:=.many [V10,.bool]
theorem ok138 (n : Nat) : FO 138 P138 R138 (F.zcg n):=zf WOf.st (zsg _ n) (d:=8) fun _ => by kernel_rfl
noncomputable def o138 (n : Nat):=oc 138 P138 R138 (F.zcg n)
def qh7 : Shape:=⟨[(1,(.const (.ref 0 0))),(2,(.const (.ref 1 0)))],[[.bool,V10,V0],[.bool,V10,V0]],[],[],[],2,0,0⟩
def qe7_0 : Shape:=⟨[(1,(.const (.ref 0 0))),(2,(.const (.ref 1 0)))],[[.bool,V10,V0],[.bool,V10,V0]],[],[],[],2,0,0⟩
noncomputable def ql7 (X : Type) (n : Nat) : LoopI X:=mkLi 8 0 0 0 qh7 [(0,qe7_0)] [] n fun m ks => F.zg.L3 n (xe qe7_0 ks 0) m
def qh8 : Shape:=⟨[(1,(.const (.ref 0 0))),(2,(.const (.ref 1 0)))],[[.bool,V10,V0],[.bool,V10,V0]],[],[],[],2,0,0⟩
def qe8_2 : Shape:=⟨[(1,(.const (.ref 0 0))),(2,(.const (.ref 1 0)))],[[.bool,V10,V0],[.bool,V10,V0]],[],[],[],2,0,0⟩
def qe8_r : Shape:=⟨[(2,(.const (.ref 1 0))),(3,V0)],[[.bool,V10,V0],[.bool,V10,V0]],[],[],[],2,0,0⟩
noncomputable def ql8 (X : Type) (n : Nat) : LoopI X:=mkLi 8 0 0 0 qh8 [(2,qe8_2)] [qe8_r] n fun m ks => F.zg.L5 n (xe qe8_2 ks 2) (xr qe8_r ks) m
noncomputable def cx79 (X : Type) (n : Nat) : Cx X:=mkCx tab.get [(79,Tryz.f79)] [o138 n] [(79,3,[ql7 X n]),(79,5,[ql8 X n])] [] [] []
theorem qo7 (X : Type) (n : Nat) : LO (cx79 X n) 79 Tryz.f79 0 (ql7 X n):=lok
theorem qo8 (X : Type) (n : Nat) : LO (cx79 X n) 79 Tryz.f79 1 (ql8 X n):=lok
theorem zvo (X : Type) (n : Nat) : CxOK Tryz.prog SW (cx79 X n):=mx (T1 (J Tryz.func79 (by decide))) (T1 (zb (ok138 n))) (T1 (okc (J (T1 (qo7 X n)) (T1 (T1 (qo8 X n)))) trivial)) trivial
abbrev P79 : List SV:=[V11]
abbrev R79 : RV:=.many [V11,V0]
theorem ok79 (n : Nat) : FO 79 P79 R79 (F.zg n):=zf WOf.st (zvo _ n) (d:=8) fun _ => by kernel_rfl
noncomputable def o79 (n : Nat):=oc 79 P79 R79 (F.zg n)
noncomputable def cx89 (X : Type) (n : Nat) : Cx X:=mkCx tab.get [(89,Tryz.f89)] [o79 n] [] [] [] []
theorem zvp (X : Type) (n : Nat) : CxOK Tryz.prog SW (cx89 X n):=mx (T1 (J Tryz.func89 (by decide))) (T1 (zb (ok79 n))) (T1 (okc trivial trivial)) trivial
abbrev P89 : List SV:=[V11]
abbrev R89 : RV:=.one V0
theorem ok89 (n : Nat) : FO 89 P89 R89 (F.zbe n):=zf WOf.st (zvp _ n) (d:=8) fun _ => by kernel_rfl
noncomputable def o89 (n : Nat):=oc 89 P89 R89 (F.zbe n)
noncomputable def cx147 (X : Type) (n : Nat) : Cx X:=mkCx tab.get [(147,Tryz.f147)] [o89 n] [] [] [] []
theorem zsh (X : Type) (n : Nat) : CxOK Tryz.prog SW (cx147 X n):=mx (T1 (J Tryz.func147 (by decide))) (T1 (zb (ok89 n))) (T1 (okc trivial trivial)) trivial
abbrev P147 : List SV:=[V11]
abbrev R147 : RV:=.one .bool
theorem ok147 (n : Nat) : FO 147 P147 R147 (F.za8 n):=zf WOf.st (zsh _ n) (d:=8) fun _ => by kernel_rfl
noncomputable def o147 (n : Nat):=oc 147 P147 R147 (F.za8 n)
def qh9 : Shape:=⟨[(0,V1),(1,(.const (.fn 147 [] []))),(7,V0),(8,V0)],[[.str,V0,V1,V0,V2,V0]],[],[],[],1,0,0⟩
def qe9_0 : Shape:=⟨[],[[.str,V0,V1,V0,V2,V0]],[],[],[],1,0,0⟩
def qe9_r : Shape:=⟨[(4,V0)],[[.str,V0,V1,V0,V2,V0]],[],[],[],1,0,0⟩
noncomputable def ql9 (X : Type) (n : Nat) : LoopI X:=mkLi 6 1 0 0 qh9 [(0,qe9_0)] [qe9_r] n fun m ks => F.zn.L2_slices_IndexFunc_api_Dec_api_Dec n (xe qe9_0 ks 0) (xr qe9_r ks) m
noncomputable def cx83 (X : Type) (n : Nat) : Cx X:=mkCx tab.get [(83,Tryz.f83),(146,Tryz.f146),(196,Tryz.f196)] [o145 n,o147 n] [(196,2,[ql9 X n])] [] [] []
theorem qo9 (X : Type) (n : Nat) : LO (cx83 X n) 196 Tryz.f196 0 (ql9 X n):=lok
theorem zvq (X : Type) (n : Nat) : CxOK Tryz.prog SW (cx83 X n):=mx (J (J Tryz.func83 (by decide)) (J (J Tryz.func146 (by decide)) (T1 (J Tryz.func196 (by decide))))) (J (zb (ok145 n)) (T1 (zb (ok147 n)))) (J (okc trivial trivial) (J (okc trivial trivial) (T1 (okc (T1 (T1 (qo9 X n))) trivial)))) trivial
abbrev P83 : List SV:=[V3]
abbrev R83 : RV:=.one .bool
theorem ok83 (n : Nat) : FO 83 P83 R83 (F.zn n):=zf WOf.st (zvq _ n) (d:=8) fun _ => by kernel_rfl
noncomputable def o83 (n : Nat):=oc 83 P83 R83 (F.zn n)
noncomputable def cx84 (X : Type) (n : Nat) : Cx X:=mkCx tab.get [(84,Tryz.f84)] [o145 n] [] [] [] []
theorem zvr (X : Type) (n : Nat) : CxOK Tryz.prog SW (cx84 X n):=mx (T1 (J Tryz.func84 (by decide))) (T1 (zb (ok145 n))) (T1 (okc trivial trivial)) trivial
abbrev P84 : List SV:=[V3]
abbrev R84 : RV:=.one .bool
theorem ok84 (n : Nat) : FO 84 P84 R84 (F.za3 n):=zf WOf.st (zvr _ n) (d:=8) fun _ => by kernel_rfl
noncomputable def o84 (n : Nat):=oc 84 P84 R84 (F.za3 n)
noncomputable def cx150 (X : Type) (n : Nat) : Cx X:=mkCx tab.get [(150,Tryz.f150)] [o97 n] [] [] [] []
theorem zsi (X : Type) (n : Nat) : CxOK Tryz.prog SW (cx150 X n):=mx (T1 (J Tryz.func150 (by decide))) (T1 (zb (ok97 n))) (T1 (okc trivial trivial)) trivial
abbrev P150 : List SV:=[V12]
abbrev R150 : RV:=.one V0
theorem ok150 (n : Nat) : FO 150 P150 R150 (F.zb1 n):=zf WOf.st (zsi _ n) (d:=8) fun _ => by kernel_rfl
noncomputable def o150 (n : Nat):=oc 150 P150 R150 (F.zb1 n)
noncomputable def cx149 (X : Type) (n : Nat) : Cx X:=mkCx tab.get [(149,Tryz.f149)] [o150 n] [] [] [] []
theorem zsj (X : Type) (n : Nat) : CxOK Tryz.prog SW (cx149 X n):=mx (T1 (J Tryz.func149 (by decide))) (T1 (zb (ok150 n))) (T1 (okc trivial trivial)) trivial
abbrev P149 : List SV:=[V12]
abbrev R149 : RV:=.one .bool
theorem ok149 (n : Nat) : FO 149 P149 R149 (F.zbb n):=zf WOf.st (zsj _ n) (d:=8) fun _ => by kernel_rfl
noncomputable def o149 (n : Nat):=oc 149 P149 R149 (F.zbb n)
def qh10 : Shape:=⟨[(0,V2),(1,(.const (.fn 149 [] []))),(7,V0),(8,V0)],[[.str,V0,V1,V0,V2,V0]],[],[],[],1,0,0⟩
def qe10_0 : Shape:=⟨[],[[.str,V0,V1,V0,V2,V0]],[],[],[],1,0,0⟩
def qe10_r : Shape:=⟨[(4,V0)],[[.str,V0,V1,V0,V2,V0]],[],[],[],1,0,0⟩
noncomputable def ql10 (X : Type) (n : Nat) : LoopI X:=mkLi 6 1 0 0 qh10 [(0,qe10_0)] [qe10_r] n fun m ks => F.zr.L2_slices_IndexFunc_api_Tag_api_Tag n (xe qe10_0 ks 0) (xr qe10_r ks) m
noncomputable def cx85 (X : Type) (n : Nat) : Cx X:=mkCx tab.get [(85,Tryz.f85),(148,Tryz.f148),(197,Tryz.f197)] [o149 n] [(197,2,[ql10 X n])] [] [] []
theorem qo10 (X : Type) (n : Nat) : LO (cx85 X n) 197 Tryz.f197 0 (ql10 X n):=lok
theorem zvs (X : Type) (n : Nat) : CxOK Tryz.prog SW (cx85 X n):=mx (J (J Tryz.func85 (by decide)) (J (J Tryz.func148 (by decide)) (T1 (J Tryz.func197 (by decide))))) (T1 (zb (ok149 n))) (J (okc trivial trivial) (J (okc trivial trivial) (T1 (okc (T1 (T1 (qo10 X n))) trivial)))) trivial
abbrev P85 : List SV:=[V3]
abbrev R85 : RV:=.one .bool
theorem ok85 (n : Nat) : FO 85 P85 R85 (F.zr n):=zf WOf.st (zvs _ n) (d:=8) fun _ => by kernel_rfl
noncomputable def o85 (n : Nat):=oc 85 P85 R85 (F.zr n)
noncomputable def cx86 (X : Type) (n : Nat) : Cx X:=mkCx tab.get [(86,Tryz.f86)] [o145 n] [] [] [] []
theorem zvt (X : Type) (n : Nat) : CxOK Tryz.prog SW (cx86 X n):=mx (T1 (J Tryz.func86 (by decide))) (T1 (zb (ok145 n))) (T1 (okc trivial trivial)) trivial
abbrev P86 : List SV:=[V3]
abbrev R86 : RV:=.one .bool
theorem ok86 (n : Nat) : FO 86 P86 R86 (F.za4 n):=zf WOf.st (zvt _ n) (d:=8) fun _ => by kernel_rfl
noncomputable def o86 (n : Nat):=oc 86 P86 R86 (F.za4 n)
def qh11 : Shape:=⟨[(26,V13),(27,V0)],[[.str,V0,V1,V0,V2,V0],[.str,V0,V1,V0,V2,V0]],[],[],[],2,0,0⟩
def qe11_0 : Shape:=⟨[],[[.str,V0,V1,V0,V2,V0],[.str,V0,V1,V0,V2,V0]],[],[],[],2,0,0⟩
def qe11_r : Shape:=⟨[(2,V0)],[[.str,V0,V1,V0,V2,V0],[.str,V0,V1,V0,V2,V0]],[],[],[],2,0,0⟩
noncomputable def ql11 (X : Type) (n : Nat) : LoopI X:=mkLi 8 0 0 0 qh11 [(0,qe11_0)] [qe11_r] n fun m ks => F.zo.L3 n (xe qe11_0 ks 0) (xr qe11_r ks) m
noncomputable def cx48 (X : Type) (n : Nat) : Cx X:=mkCx tab.get [(48,Tryz.f48)] [o81 n,o82 n,o83 n,o84 n,o85 n,o86 n] [(48,3,[ql11 X n])] [] [] []
theorem qo11 (X : Type) (n : Nat) : LO (cx48 X n) 48 Tryz.f48 0 (ql11 X n):=lok
theorem zvu (X : Type) (n : Nat) : CxOK Tryz.prog SW (cx48 X n):=mx (T1 (J Tryz.func48 (by decide))) (J (zb (ok81 n)) (J (zb (ok82 n)) (J (zb (ok83 n)) (J (zb (ok84 n)) (J (zb (ok85 n)) (T1 (zb (ok86 n)))))))) (T1 (okc (T1 (T1 (qo11 X n))) trivial)) trivial
abbrev P48 : List SV:=[V3]
abbrev R48 : RV:=.one V0
theorem ok48 (n : Nat) : FO 48 P48 R48 (F.zo n):=zf WOf.st (zvu _ n) (d:=8) fun _ => by kernel_rfl
noncomputable def o48 (n : Nat):=oc 48 P48 R48 (F.zo n)
noncomputable def cx144 (X : Type) (n : Nat) : Cx X:=mkCx tab.get [(144,Tryz.f144)] [] [] [] [] []
theorem zsk (X : Type) (n : Nat) : CxOK Tryz.prog SW (cx144 X n):=mx (T1 (J Tryz.func144 (by decide))) trivial (T1 (okc trivial trivial)) trivial
abbrev P144 : List SV:=[V2]
abbrev R144 : RV:=.one V2
theorem ok144 (n : Nat) : FO 144 P144 R144 (F.zt n):=zf WOf.st (zsk _ n) (d:=8) fun _ => by kernel_rfl
noncomputable def o144 (n : Nat):=oc 144 P144 R144 (F.zt n)
def qh12 : Shape:=⟨[(3,(.ms 2 Y3)),(4,V0),(11,(.ms 2 Y3)),(12,V0),(13,V0)],[[(.row Y3)],[(.row Y3)],[(.row Y3)]],[],[],[],3,0,0⟩
def qe12_0 : Shape:=⟨[(3,(.ms 2 Y3)),(4,V0)],[[(.row Y3)],[(.row Y3)],[(.row Y3)]],[],[],[],3,0,0⟩
noncomputable def ql12 (X : Type) (n : Nat) : LoopI X:=mkLi 8 0 0 0 qh12 [(0,qe12_0)] [] n fun m ks => F.zu.L5 n (xe qe12_0 ks 0) m
noncomputable def cx80 (X : Type) (n : Nat) : Cx X:=mkCx tab.get [(80,Tryz.f80),(139,Tryz.f139)] [o144 n] [(80,5,[ql12 X n])] [] [] [] [] [(38,Y3)] [(140,.sort Y3 141 sortTags)] none [139]
theorem qo12 (X : Type) (n : Nat) : LO (cx80 X n) 80 Tryz.f80 0 (ql12 X n):=lok
theorem zvv (X : Type) (n : Nat) : CxOK Tryz.prog SW (cx80 X n):=mx (J (J Tryz.func80 (by decide)) (T1 (J Tryz.func139 (by decide)))) (T1 (zb (ok144 n))) (J (okc (T1 (T1 (qo12 X n))) trivial) (T1 (okc trivial trivial))) trivial (T1 (zl9.mono (fun _ _ => trivial)))
abbrev P80 : List SV:=[V2]
abbrev R80 : RV:=.one V2
theorem ok80 (n : Nat) : FO 80 P80 R80 (F.zu n):=zf WOf.st (zvv _ n) (d:=8) fun _ => by kernel_rfl
noncomputable def o80 (n : Nat):=oc 80 P80 R80 (F.zu n)
def qh13 : Shape:=⟨[(1,(.const (.ref 0 0))),(2,(.const (.ref 1 0))),(4,(.ms 3 Y2)),(13,(.ms 3 Y2)),(14,V0),(15,V0)],[[.str,V0,V1,V0,V2,V0],[.str,V0,(.sl Y2 (.own 0)),V0,(.sl Y3 (.own 1)),V0],[(.row Y2)],[(.row Y2)]],[true,true],[],[],4,0,0⟩
def qe13_0 : Shape:=⟨[(1,(.const (.ref 0 0))),(2,(.const (.ref 1 0))),(4,(.ms 3 Y2))],[[.str,V0,V1,V0,V2,V0],[.str,V0,(.sl Y2 (.own 0)),V0,(.sl Y3 (.own 1)),V0],[(.row Y2)],[(.row Y2)]],[true,true],[],[],4,0,0⟩
noncomputable def ql13 (X : Type) (n : Nat) : LoopI X:=mkLi 8 0 0 0 qh13 [(0,qe13_0)] [] n fun m ks => F.zl.L3 n (xe qe13_0 ks 0) m
noncomputable def cx47 (X : Type) (n : Nat) : Cx X:=mkCx tab.get [(47,Tryz.f47),(78,Tryz.f78)] [o48 n,o79 n,o80 n] [(47,3,[ql13 X n])] [] [] [] [] [(37,Y2)] [] none [78]
theorem qo13 (X : Type) (n : Nat) : LO (cx47 X n) 47 Tryz.f47 0 (ql13 X n):=lok
theorem zvw (X : Type) (n : Nat) : CxOK Tryz.prog SW (cx47 X n):=mx (J (J Tryz.func47 (by decide)) (T1 (J Tryz.func78 (by decide)))) (J (zb (ok48 n)) (J (zb (ok79 n)) (T1 (zb (ok80 n))))) (J (okc (T1 (T1 (qo13 X n))) trivial) (T1 (okc trivial trivial))) trivial
abbrev P47 : List SV:=[V3]
abbrev R47 : RV:=.many [V3,V0]
theorem ok47 (n : Nat) : FO 47 P47 R47 (F.zl n):=zf WOf.st (zvw _ n) (d:=8) fun _ => by kernel_rfl
noncomputable def o47 (n : Nat):=oc 47 P47 R47 (F.zl n)
def qh14 : Shape:=⟨[(0,(.const (.yield 0))),(2,(.const (.ref 5 0))),(8,V4),(9,V0),(10,V0)],[[(.sl Y6 (.own 0))],[V0],[V0],[(.sl Y6 (.own 1))],[V4],[(.const (.fn 47 [] []))]],[true,true],[.ready],[(0,46,5,[(4,(.const (.ref 0 0))),(5,(.const (.ref 1 0))),(6,(.const (.ref 2 0))),(7,(.const (.ref 3 0)))])],6,0,1⟩
def qe14_0 : Shape:=⟨[],[[(.sl Y6 (.own 0))],[V0],[V0],[(.sl Y6 (.own 1))],[V4],[(.const (.fn 47 [] []))]],[true,true],[.ready],[],6,0,1⟩
def qe14_r : Shape:=⟨[],[[(.sl Y6 (.own 0))],[V0],[V0],[(.sl Y6 (.own 1))],[V4],[(.const (.fn 47 [] []))]],[true,true],[.done .ret],[],6,0,1⟩
def qe14_rx1 : Shape:=⟨[],[[(.sl Y6 (.own 0))],[V0],[V0],[(.sl Y6 (.own 1))],[V4],[(.const (.fn 47 [] []))]],[true,true],[.ready],[],6,0,1⟩
noncomputable def ql14 (X : Type) (n : Nat) : LoopI X:=mkLi 6 6 0 1 qh14 [(0,qe14_0)] [qe14_r,qe14_rx1] n fun m ks => F.zv.L1_batch_all_api_Metric_1 n (xe qe14_0 ks 0) (xr qe14_r ks) (xr qe14_rx1 ks) m
noncomputable def cx25 (X : Type) (n : Nat) : Cx X:=mkCx tab.get [(25,Tryz.f25),(46,Tryz.f46),(77,Tryz.f77),(137,Tryz.f137)] [o47 n] [(137,1,[ql14 X n])] [(46,5,Tryz.f46,[4,5,6,7],0)] [(46,8,[(0,3)])] []
theorem qo14 (X : Type) (n : Nat) : LO (cx25 X n) 137 Tryz.f137 0 (ql14 X n):=lok
theorem zvx (X : Type) (n : Nat) : CxOK Tryz.prog SW (cx25 X n):=mx (J (J Tryz.func25 (by decide)) (J (J Tryz.func46 (by decide)) (J (J Tryz.func77 (by decide)) (T1 (J Tryz.func137 (by decide)))))) (T1 (zb (ok47 n))) (J (okc trivial trivial) (J (okc trivial (T1 (rfo (cx:=cx25 X n) (g:=46) (i:=5) (lv:=[4,5,6,7]) (show _ = some (Tryz.f46.ntmps,_,rfNo Tryz.f46 0) by kernel_rfl)))) (J (okc trivial trivial) (T1 (okc (T1 (T1 (qo14 X n))) trivial))))) (T1 (J Tryz.func46 rfl))
abbrev P25 : List SV:=[V4]
abbrev R25 : RV:=.many [V4,V0,V0]
theorem ok25 (n : Nat) : FO 25 P25 R25 (F.zv n):=zf WOf.st (zvx _ n) (d:=8) fun _ => by kernel_rfl
noncomputable def o25 (n : Nat):=oc 25 P25 R25 (F.zv n)
def qh15 : Shape:=⟨[(0,V10),(3,(.sl .u8 (.own 0)))],[],[true],[],[],0,0,0⟩
def qe15_0 : Shape:=⟨[(0,V10),(3,(.sl .u8 (.own 0)))],[],[true],[],[],0,0,0⟩
noncomputable def ql15 (X : Type) (n : Nat) : LoopI X:=mkLi 8 0 0 0 qh15 [(0,qe15_0)] [] n fun m ks => F.zh.L2 n (xe qe15_0 ks 0) m
noncomputable def cx27 (X : Type) (n : Nat) : Cx X:=mkCx tab.get [(27,Tryz.f27)] [] [(27,2,[ql15 X n])] [] [] []
theorem qo15 (X : Type) (n : Nat) : LO (cx27 X n) 27 Tryz.f27 0 (ql15 X n):=lok
theorem zvy (X : Type) (n : Nat) : CxOK Tryz.prog SW (cx27 X n):=mx (T1 (J Tryz.func27 (by decide))) trivial (T1 (okc (T1 (T1 (qo15 X n))) trivial)) trivial
abbrev P27 : List SV:=[V10]
abbrev R27 : RV:=.one (.sl .u8 .fresh)
theorem ok27 (n : Nat) : FO 27 P27 R27 (F.zh n):=zf WOf.st (zvy _ n) (d:=8) fun _ => by kernel_rfl
noncomputable def o27 (n : Nat):=oc 27 P27 R27 (F.zh n)
noncomputable def cx29 (X : Type) (n : Nat) : Cx X:=mkCx tab.get [(29,Tryz.f29)] [] [] [] [] []
theorem zvz (X : Type) (n : Nat) : CxOK Tryz.prog SW (cx29 X n):=mx (T1 (J Tryz.func29 (by decide))) trivial (T1 (okc trivial trivial)) trivial
abbrev P29 : List SV:=[V14]
abbrev R29 : RV:=.one V7
theorem ok29 (n : Nat) : FO 29 P29 R29 (F.zcm n):=zf WOf.st (zvz _ n) (d:=8) fun _ => by kernel_rfl
noncomputable def o29 (n : Nat):=oc 29 P29 R29 (F.zcm n)
def qh16 : Shape:=⟨[(0,V14),(3,V0)],[],[],[],[],0,0,0⟩
def qe16_0 : Shape:=⟨[(0,V14)],[],[],[],[],0,0,0⟩
noncomputable def ql16 (X : Type) (n : Nat) : LoopI X:=mkLi 8 0 0 0 qh16 [(0,qe16_0)] [] n fun m ks => F.zax.L2 n (xe qe16_0 ks 0) m
noncomputable def cx91 (X : Type) (n : Nat) : Cx X:=mkCx tab.get [(91,Tryz.f91)] [] [(91,2,[ql16 X n])] [] [] []
theorem qo16 (X : Type) (n : Nat) : LO (cx91 X n) 91 Tryz.f91 0 (ql16 X n):=lok
theorem zv0 (X : Type) (n : Nat) : CxOK Tryz.prog SW (cx91 X n):=mx (T1 (J Tryz.func91 (by decide))) trivial (T1 (okc (T1 (T1 (qo16 X n))) trivial)) trivial
abbrev P91 : List SV:=[V14]
abbrev R91 : RV:=.one V14
theorem ok91 (n : Nat) : FO 91 P91 R91 (F.zax n):=zf WOf.st (zv0 _ n) (d:=8) fun _ => by kernel_rfl
noncomputable def o91 (n : Nat):=oc 91 P91 R91 (F.zax n)
def qh17 : Shape:=⟨[(5,V14),(11,V7),(12,V0),(13,V0)],[],[],[],[],0,0,0⟩
def qe17_0 : Shape:=⟨[(5,V14)],[],[],[],[],0,0,0⟩
noncomputable def ql17 (X : Type) (n : Nat) : LoopI X:=mkLi 8 0 0 0 qh17 [(0,qe17_0)] [] n fun m ks => F.zaq.L3 n (xe qe17_0 ks 0) m
noncomputable def cx55 (X : Type) (n : Nat) : Cx X:=mkCx tab.get [(55,Tryz.f55)] [o91 n] [(55,3,[ql17 X n])] [] [] []
theorem qo17 (X : Type) (n : Nat) : LO (cx55 X n) 55 Tryz.f55 0 (ql17 X n):=lok
theorem zv1 (X : Type) (n : Nat) : CxOK Tryz.prog SW (cx55 X n):=mx (T1 (J Tryz.func55 (by decide))) (T1 (zb (ok91 n))) (T1 (okc (T1 (T1 (qo17 X n))) trivial)) trivial
abbrev P55 : List SV:=[V14,V7]
abbrev R55 : RV:=.one V14
theorem ok55 (n : Nat) : FO 55 P55 R55 (F.zaq n):=zf WOf.st (zv1 _ n) (d:=8) fun _ => by kernel_rfl
noncomputable def o55 (n : Nat):=oc 55 P55 R55 (F.zaq n)
noncomputable def cx30 (X : Type) (n : Nat) : Cx X:=mkCx tab.get [(30,Tryz.f30)] [o55 n] [] [] [] []
theorem zv2 (X : Type) (n : Nat) : CxOK Tryz.prog SW (cx30 X n):=mx (T1 (J Tryz.func30 (by decide))) (T1 (zb (ok55 n))) (T1 (okc trivial trivial)) trivial
abbrev P30 : List SV:=[V7]
abbrev R30 : RV:=.one V14
theorem ok30 (n : Nat) : FO 30 P30 R30 (F.zcn n):=zf WOf.st (zv2 _ n) (d:=8) fun _ => by kernel_rfl
noncomputable def o30 (n : Nat):=oc 30 P30 R30 (F.zcn n)
noncomputable def cx151 (X : Type) (n : Nat) : Cx X:=mkCx tab.get [(151,Tryz.f151)] [] [] [] [] []
theorem zsl (X : Type) (n : Nat) : CxOK Tryz.prog SW (cx151 X n):=mx (T1 (J Tryz.func151 (by decide))) trivial (T1 (okc trivial trivial)) trivial
abbrev P151 : List SV:=[V12,V12]
abbrev R151 : RV:=.one .bool
theorem ok151 (n : Nat) : FO 151 P151 R151 (F.zck n):=zf WOf.st (zsl _ n) (d:=8) fun _ => by kernel_rfl
noncomputable def o151 (n : Nat):=oc 151 P151 R151 (F.zck n)
def qh18 : Shape:=⟨[(0,V2),(3,V0)],[],[],[],[],0,0,0⟩
def qe18_0 : Shape:=⟨[],[],[],[],[],0,0,0⟩
def qe18_r : Shape:=⟨[(2,.bool)],[],[],[],[],0,0,0⟩
noncomputable def ql18 (X : Type) (n : Nat) : LoopI X:=mkLi 8 0 0 0 qh18 [(0,qe18_0)] [qe18_r] n fun m ks => F.za7.L2 n (fun _ => xe qe18_0 ks 0) (xr qe18_r ks) m
noncomputable def cx87 (X : Type) (n : Nat) : Cx X:=mkCx tab.get [(87,Tryz.f87)] [o151 n] [(87,2,[ql18 X n])] [] [] []
theorem qo18 (X : Type) (n : Nat) : LO (cx87 X n) 87 Tryz.f87 0 (ql18 X n):=lok
theorem zv3 (X : Type) (n : Nat) : CxOK Tryz.prog SW (cx87 X n):=mx (T1 (J Tryz.func87 (by decide))) (T1 (zb (ok151 n))) (T1 (okc (T1 (T1 (qo18 X n))) trivial)) trivial
abbrev P87 : List SV:=[V2]
abbrev R87 : RV:=.one .bool
theorem ok87 (n : Nat) : FO 87 P87 R87 (F.za7 n):=zf WOf.st (zv3 _ n) (d:=8) fun _ => by kernel_rfl
noncomputable def o87 (n : Nat):=oc 87 P87 R87 (F.za7 n)
noncomputable def cx49 (X : Type) (n : Nat) : Cx X:=mkCx tab.get [(49,Tryz.f49)] [o48 n,o87 n] [] [] [] []
theorem zv4 (X : Type) (n : Nat) : CxOK Tryz.prog SW (cx49 X n):=mx (T1 (J Tryz.func49 (by decide))) (J (zb (ok48 n)) (T1 (zb (ok87 n)))) (T1 (okc trivial trivial)) trivial
abbrev P49 : List SV:=[V3]
abbrev R49 : RV:=.one .bool
theorem ok49 (n : Nat) : FO 49 P49 R49 (F.zb2 n):=zf WOf.st (zv4 _ n) (d:=8) fun _ => by kernel_rfl
noncomputable def o49 (n : Nat):=oc 49 P49 R49 (F.zb2 n)
noncomputable def cx90 (X : Type) (n : Nat) : Cx X:=mkCx tab.get [(90,Tryz.f90),(152,Tryz.f152)] [] [] [] [] []
theorem zv5 (X : Type) (n : Nat) : CxOK Tryz.prog SW (cx90 X n):=mx (J (J Tryz.func90 (by decide)) (T1 (J Tryz.func152 (by decide)))) trivial (J (okc trivial trivial) (T1 (okc trivial trivial))) trivial
abbrev P90 : List SV:=[V0]
abbrev R90 : RV:=.one V10
theorem ok90 (n : Nat) : FO 90 P90 R90 (F.zb7 n):=zf WOf.st (zv5 _ n) (d:=8) fun _ => by kernel_rfl
noncomputable def o90 (n : Nat):=oc 90 P90 R90 (F.zb7 n)
noncomputable def cx54 (X : Type) (n : Nat) : Cx X:=mkCx tab.get [(54,Tryz.f54)] [o27 n,o89 n,o90 n] [] [] [] []
theorem zv6 (X : Type) (n : Nat) : CxOK Tryz.prog SW (cx54 X n):=mx (T1 (J Tryz.func54 (by decide))) (J (zb (ok27 n)) (J (zb (ok89 n)) (T1 (zb (ok90 n))))) (T1 (okc trivial trivial)) trivial
abbrev P54 : List SV:=[V11]
abbrev R54 : RV:=.many [(.sl .u8 .fresh),V0]
theorem ok54 (n : Nat) : FO 54 P54 R54 (F.zb8 n):=zf WOf.st (zv6 _ n) (d:=8) fun _ => by kernel_rfl
noncomputable def o54 (n : Nat):=oc 54 P54 R54 (F.zb8 n)
def qh19 : Shape:=⟨[(0,V4),(8,(.const (.ref 1 0))),(9,(.sl .u8 (.own 0))),(10,V0),(12,(.sl .u8 (.own 1))),(13,V0),(30,V4),(31,V0),(32,V0)],[[.mp],[(.sl .str (.own 2)),(.const (.mref 0))]],[true,true,true],[],[],2,0,0⟩
def qe19_r : Shape:=⟨[(2,(.sl .u8 (.own 0))),(3,V0),(4,V0)],[[.mp],[(.sl .str (.own 1)),(.const (.mref 0))]],[true,true],[],[],2,0,0⟩
def qe19_n : Shape:=⟨[(0,V4),(8,(.const (.ref 1 0))),(9,(.sl .u8 (.own 0))),(30,V4),(31,V0),(32,V0)],[[.mp],[(.sl .str (.own 1)),(.const (.mref 0))]],[true,true],[],[],2,0,0⟩
noncomputable def ql19 (X : Type) (n : Nat) : CutI X:=mkCi 8 0 0 0 qh19 [qe19_n] [] [qe19_r] fun ks => F.zb.C10 n (xr qe19_r ks) (xn qe19_n ks)
def qh20 : Shape:=⟨[(0,(.const (.ref 1 0))),(3,(.const (.ref 3 0))),(7,(.const (.ref 4 0))),(8,(.const (.ref 5 0))),(9,(.const (.ref 6 0))),(10,(.const (.fn 52 [] [(.ref 6 0)]))),(53,V1),(54,V0),(55,V0)],[[.mp],[(.sl .str (.own 1)),(.const (.mref 0))],[.str,V0,V1,V0,V2,V0],[.str,V0,V1,V0,V2,V0],[(.sl .u8 (.own 2))],[V0],[(.const (.fn 51 [] [(.ref 5 0),(.ref 4 0)]))]],[true,true,true],[],[],7,2,0⟩
def qe20_1 : Shape:=⟨[(0,(.const (.ref 1 0))),(3,(.const (.ref 3 0))),(7,(.const (.ref 4 0))),(8,(.const (.ref 5 0))),(9,(.const (.ref 6 0))),(10,(.const (.fn 52 [] [(.ref 6 0)])))],[[.mp],[(.sl .str (.own 1)),(.const (.mref 0))],[.str,V0,V1,V0,V2,V0],[.str,V0,V1,V0,V2,V0],[(.sl .u8 (.own 2))],[V0],[(.const (.fn 51 [] [(.ref 5 0),(.ref 4 0)]))]],[true,true,true],[],[],7,2,0⟩
noncomputable def ql20 (X : Type) (n : Nat) : LoopI X:=mkLi 7 3 2 0 qh20 [(1,qe20_1)] [] n fun m ks => F.zb.L18_rec_Put n (xe qe20_1 ks 1) m
def qh21 : Shape:=⟨[(0,(.const (.ref 1 0))),(3,(.const (.ref 3 0))),(7,(.const (.ref 4 0))),(8,(.const (.ref 5 0))),(9,(.const (.ref 6 0))),(10,(.const (.fn 52 [] [(.ref 6 0)]))),(14,(.const (.ref 7 0))),(76,V2),(77,V0),(78,V0)],[[.mp],[(.sl .str (.own 1)),(.const (.mref 0))],[.str,V0,V1,V0,V2,V0],[.str,V0,V1,V0,V2,V0],[(.sl .u8 (.own 2))],[V0],[(.const (.fn 51 [] [(.ref 5 0),(.ref 4 0)]))],[.str,.str]],[true,true,true],[],[],8,2,0⟩
def qe21_n : Shape:=⟨[(0,(.const (.ref 1 0))),(3,(.const (.ref 3 0))),(7,(.const (.ref 4 0))),(8,(.const (.ref 5 0))),(9,(.const (.ref 6 0))),(10,(.const (.fn 52 [] [(.ref 6 0)]))),(76,V2),(77,V0),(78,V0)],[[.mp],[(.sl .str (.own 1)),(.const (.mref 0))],[.str,V0,V1,V0,V2,V0],[.str,V0,V1,V0,V2,V0],[(.sl .u8 (.own 2))],[V0],[(.const (.fn 51 [] [(.ref 5 0),(.ref 4 0)]))]],[true,true,true],[],[],7,2,0⟩
noncomputable def ql21 (X : Type) (n : Nat) : CutI X:=mkCi 7 3 2 0 qh21 [qe21_n] [] [] fun ks => F.zb.C28_rec_Put n (xn qe21_n ks)
def qh22 : Shape:=⟨[(0,(.const (.ref 1 0))),(3,(.const (.ref 3 0))),(7,(.const (.ref 4 0))),(8,(.const (.ref 5 0))),(9,(.const (.ref 6 0))),(10,(.const (.fn 52 [] [(.ref 6 0)]))),(76,V2),(77,V0),(78,V0)],[[.mp],[(.sl .str (.own 1)),(.const (.mref 0))],[.str,V0,V1,V0,V2,V0],[.str,V0,V1,V0,V2,V0],[(.sl .u8 (.own 2))],[V0],[(.const (.fn 51 [] [(.ref 5 0),(.ref 4 0)]))]],[true,true,true],[],[],7,2,0⟩
def qe22_3 : Shape:=⟨[(3,(.const (.ref 3 0))),(7,(.const (.ref 4 0))),(8,(.const (.ref 5 0))),(10,(.const (.fn 52 [] [(.ref 6 0)])))],[[.mp],[(.sl .str (.own 1)),(.const (.mref 0))],[.str,V0,V1,V0,V2,V0],[.str,V0,V1,V0,V2,V0],[(.sl .u8 (.own 2))],[V0],[(.const (.fn 51 [] [(.ref 5 0),(.ref 4 0)]))]],[true,true,true],[],[],7,2,0⟩
noncomputable def ql22 (X : Type) (n : Nat) : LoopI X:=mkLi 7 3 2 0 qh22 [(3,qe22_3)] [] n fun m ks => F.zb.L25_rec_Put n (xe qe22_3 ks 3) m
def qh23 : Shape:=⟨[(0,(.const (.ref 1 0))),(3,(.const (.ref 3 0))),(7,(.const (.ref 4 0))),(8,(.const (.ref 5 0))),(9,(.const (.ref 6 0))),(10,(.const (.fn 52 [] [(.ref 6 0)])))],[[.mp],[(.sl .str (.own 1)),(.const (.mref 0))],[.str,V0,V1,V0,V2,V0],[.str,V0,V1,V0,V2,V0],[(.sl .u8 (.own 2))],[V0],[(.const (.fn 51 [] [(.ref 5 0),(.ref 4 0)]))]],[true,true,true],[],[],7,2,0⟩
def qe23_r : Shape:=⟨[(4,(.sl .u8 (.own 2))),(5,V0)],[[.mp],[(.sl .str (.own 1)),(.const (.mref 0))],[.str,V0,V1,V0,V2,V0]],[true,true,true],[],[],3,2,0⟩
noncomputable def ql23 (X : Type) (n : Nat) : CutI X:=mkCi 7 3 2 0 qh23 [] [] [qe23_r] fun ks => F.zb.C24_rec_Put n (xr qe23_r ks)
def qh24 : Shape:=⟨[(0,(.const (.ref 1 0))),(3,(.const (.ref 3 0))),(7,(.const (.ref 4 0))),(8,(.const (.ref 5 0))),(9,(.const (.ref 6 0))),(10,(.const (.fn 52 [] [(.ref 6 0)])))],[[.mp],[(.sl .str (.own 1)),(.const (.mref 0))],[.str,V0,V1,V0,V2,V0],[.str,V0,V1,V0,V2,V0],[(.sl .u8 (.own 2))],[V0],[(.const (.fn 51 [] [(.ref 5 0),(.ref 4 0)]))]],[true,true,true],[],[],7,2,0⟩
def qe24_r : Shape:=⟨[(4,(.sl .u8 (.own 2))),(5,V0)],[[.mp],[(.sl .str (.own 1)),(.const (.mref 0))],[.str,V0,V1,V0,V2,V0]],[true,true,true],[],[],3,2,0⟩
noncomputable def ql24 (X : Type) (n : Nat) : CutI X:=mkCi 7 3 2 0 qh24 [] [] [qe24_r] fun ks => F.zb.C23_rec_Put n (xr qe24_r ks)
def qh25 : Shape:=⟨[(0,(.const (.ref 1 0))),(3,(.const (.ref 3 0))),(7,(.const (.ref 4 0))),(8,(.const (.ref 5 0))),(9,(.const (.ref 6 0))),(10,(.const (.fn 52 [] [(.ref 6 0)])))],[[.mp],[(.sl .str (.own 1)),(.const (.mref 0))],[.str,V0,V1,V0,V2,V0],[.str,V0,V1,V0,V2,V0],[(.sl .u8 (.own 2))],[V0],[(.const (.fn 51 [] [(.ref 5 0),(.ref 4 0)]))]],[true,true,true],[],[],7,2,0⟩
def qe25_r : Shape:=⟨[(4,(.sl .u8 (.own 2))),(5,V0)],[[.mp],[(.sl .str (.own 1)),(.const (.mref 0))],[.str,V0,V1,V0,V2,V0]],[true,true,true],[],[],3,2,0⟩
noncomputable def ql25 (X : Type) (n : Nat) : CutI X:=mkCi 7 3 2 0 qh25 [] [] [qe25_r] fun ks => F.zb.C17_rec_Put n (xr qe25_r ks)
def qh26 : Shape:=⟨[(0,(.const (.ref 1 0))),(3,(.const (.ref 3 0))),(7,(.const (.ref 4 0))),(8,(.const (.ref 5 0))),(9,(.const (.ref 6 0))),(10,(.const (.fn 52 [] [(.ref 6 0)])))],[[.mp],[(.sl .str (.own 1)),(.const (.mref 0))],[.str,V0,V1,V0,V2,V0],[.str,V0,V1,V0,V2,V0],[(.sl .u8 (.own 2))],[V0],[(.const (.fn 51 [] [(.ref 5 0),(.ref 4 0)]))]],[true,true,true],[],[],7,2,0⟩
def qe26_r : Shape:=⟨[(4,(.sl .u8 (.own 2))),(5,V0)],[[.mp],[(.sl .str (.own 1)),(.const (.mref 0))],[.str,V0,V1,V0,V2,V0]],[true,true,true],[],[],3,2,0⟩
noncomputable def ql26 (X : Type) (n : Nat) : CutI X:=mkCi 7 3 2 0 qh26 [] [] [qe26_r] fun ks => F.zb.C16_rec_Put n (xr qe26_r ks)
def qh27 : Shape:=⟨[(0,(.const (.ref 1 0))),(3,(.const (.ref 3 0))),(7,(.const (.ref 4 0))),(8,(.const (.ref 5 0))),(9,(.const (.ref 6 0))),(10,(.const (.fn 52 [] [(.ref 6 0)])))],[[.mp],[(.sl .str (.own 1)),(.const (.mref 0))],[.str,V0,V1,V0,V2,V0],[.str,V0,V1,V0,V2,V0],[(.sl .u8 (.own 2))],[V0],[(.const (.fn 51 [] [(.ref 5 0),(.ref 4 0)]))]],[true,true,true],[],[],7,2,0⟩
def qe27_r : Shape:=⟨[(4,(.sl .u8 (.own 2))),(5,V0)],[[.mp],[(.sl .str (.own 1)),(.const (.mref 0))],[.str,V0,V1,V0,V2,V0]],[true,true,true],[],[],3,2,0⟩
noncomputable def ql27 (X : Type) (n : Nat) : CutI X:=mkCi 7 3 2 0 qh27 [] [] [qe27_r] fun ks => F.zb.C15_rec_Put n (xr qe27_r ks)
def qh28 : Shape:=⟨[(0,V4),(8,(.const (.ref 1 0))),(9,(.sl .u8 (.own 0))),(30,V4),(31,V0),(32,V0)],[[.mp],[(.sl .str (.own 1)),(.const (.mref 0))]],[true,true],[],[],2,0,0⟩
def qe28_0 : Shape:=⟨[(0,V4),(9,(.sl .u8 (.own 0)))],[[.mp],[(.sl .str (.own 1)),(.const (.mref 0))]],[true,true],[],[],2,0,0⟩
def qe28_r : Shape:=⟨[(2,(.sl .u8 (.own 0))),(3,V0),(4,V0)],[[.mp],[(.sl .str (.own 1)),(.const (.mref 0))]],[true,true],[],[],2,0,0⟩
noncomputable def ql28 (X : Type) (n : Nat) : LoopI X:=mkLi 8 0 0 0 qh28 [(0,qe28_0)] [qe28_r] n fun m ks => F.zb.L7 n (xe qe28_0 ks 0) (xr qe28_r ks) m
noncomputable def cx15 (X : Type) (n : Nat) : Cx X:=mkCx tab.get [(15,Tryz.f15),(26,Tryz.f26),(28,Tryz.f28),(50,Tryz.f50),(51,Tryz.f51),(52,Tryz.f52),(53,Tryz.f53),(88,Tryz.f88)] [o25 n,o27 n,o29 n,o30 n,o48 n,o49 n,o54 n] [(15,7,[ql28 X n]),(28,18,[ql20 X n]),(28,25,[ql22 X n])] [] [(28,14,[(0,4),(4,4),(7,7)]),(28,20,[(5,5)]),(28,27,[(0,4),(4,4),(7,7)]),(28,28,[(0,4),(4,4),(7,7)]),(52,0,[(4,4)])] [] [(15,10,[ql19 X n]),(28,15,[ql27 X n]),(28,16,[ql26 X n]),(28,17,[ql25 X n]),(28,23,[ql24 X n]),(28,24,[ql23 X n]),(28,28,[ql21 X n])]
theorem qo19 (X : Type) (n : Nat) : CO (cx15 X n) 15 Tryz.f15 13 (ql19 X n):=fun _ _ => by kernel_rfl
theorem qo21 (X : Type) (n : Nat) : CO (cx15 X n) 28 Tryz.f28 33 (ql21 X n):=fun _ _ => by kernel_rfl
theorem qo23 (X : Type) (n : Nat) : CO (cx15 X n) 28 Tryz.f28 26 (ql23 X n):=fun _ _ => by kernel_rfl
theorem qo24 (X : Type) (n : Nat) : CO (cx15 X n) 28 Tryz.f28 25 (ql24 X n):=fun _ _ => by kernel_rfl
theorem qo25 (X : Type) (n : Nat) : CO (cx15 X n) 28 Tryz.f28 18 (ql25 X n):=fun _ _ => by kernel_rfl
theorem qo26 (X : Type) (n : Nat) : CO (cx15 X n) 28 Tryz.f28 17 (ql26 X n):=fun _ _ => by kernel_rfl
theorem qo27 (X : Type) (n : Nat) : CO (cx15 X n) 28 Tryz.f28 16 (ql27 X n):=fun _ _ => by kernel_rfl
theorem qo20 (X : Type) (n : Nat) : LO (cx15 X n) 28 Tryz.f28 0 (ql20 X n):=lok
theorem qo22 (X : Type) (n : Nat) : LO (cx15 X n) 28 Tryz.f28 1 (ql22 X n):=lok
theorem qo28 (X : Type) (n : Nat) : LO (cx15 X n) 15 Tryz.f15 0 (ql28 X n):=lok
theorem zv7 (X : Type) (n : Nat) : CxOK Tryz.prog SW (cx15 X n):=mx (J (J Tryz.func15 (by decide)) (J (J Tryz.func26 (by decide)) (J (J Tryz.func28 (by decide)) (J (J Tryz.func50 (by decide)) (J (J Tryz.func51 (by decide)) (J (J Tryz.func52 (by decide)) (J (J Tryz.func53 (by decide)) (T1 (J Tryz.func88 (by decide)))))))))) (J (zb (ok25 n)) (J (zb (ok27 n)) (J (zb (ok29 n)) (J (zb (ok30 n)) (J (zb (ok48 n)) (J (zb (ok49 n)) (T1 (zb (ok54 n))))))))) (J (okk (J trivial (J trivial (J trivial (J trivial (J trivial (J trivial (J trivial (J trivial (J trivial (J trivial (J trivial (J trivial (J trivial (J (T1 (qo19 X n)) (J trivial (J trivial (J trivial (J trivial (J trivial (J trivial (J trivial (J trivial (T1 trivial))))))))))))))))))))))) (T1 (T1 (qo28 X n))) trivial) (J (okc trivial trivial) (J (okk (J trivial (J trivial (J trivial (J trivial (J trivial (J trivial (J trivial (J trivial (J trivial (J trivial (J trivial (J trivial (J trivial (J trivial (J trivial (J trivial (J (T1 (qo27 X n)) (J (T1 (qo26 X n)) (J (T1 (qo25 X n)) (J trivial (J trivial (J trivial (J trivial (J trivial (J trivial (J (T1 (qo24 X n)) (J (T1 (qo23 X n)) (J trivial (J trivial (J trivial (J trivial (J trivial (J trivial (J (T1 (qo21 X n)) (J trivial (J trivial (J trivial (J trivial (T1 trivial))))))))))))))))))))))))))))))))))))))) (J (T1 (qo20 X n)) (T1 (T1 (qo22 X n)))) trivial) (J (okc trivial trivial) (J (okc trivial trivial) (J (okc trivial trivial) (J (okc trivial trivial) (T1 (okc trivial trivial))))))))) trivial
abbrev P15 : List SV:=[V4]
abbrev R15 : RV:=.many [V7,V0,V0]
theorem ok15 (n : Nat) : FO 15 P15 R15 (F.zb n):=zf WOf.st (zv7 _ n) (d:=8) fun _ => by kernel_rfl
noncomputable def o15 (n : Nat):=oc 15 P15 R15 (F.zb n)
noncomputable def cx117 (X : Type) (n : Nat) : Cx X:=mkCx tab.get [(117,Tryz.f117)] [o48 n] [] [] [] []
theorem zsm (X : Type) (n : Nat) : CxOK Tryz.prog SW (cx117 X n):=mx (T1 (J Tryz.func117 (by decide))) (T1 (zb (ok48 n))) (T1 (okc trivial trivial)) trivial
abbrev P117 : List SV:=[V3]
abbrev R117 : RV:=.many [.bool,V0]
theorem ok117 (n : Nat) : FO 117 P117 R117 (F.zbi n):=zf WOf.st (zsm _ n) (d:=8) fun _ => by kernel_rfl
noncomputable def o117 (n : Nat):=oc 117 P117 R117 (F.zbi n)
def qh29 : Shape:=⟨[(0,(.const (.yield 0))),(2,(.const (.ref 5 0))),(8,V4),(9,V0),(10,V0)],[[(.sl .bool (.own 0))],[V0],[V0],[(.sl .bool (.own 1))],[V4],[(.const (.fn 117 [] []))]],[true,true],[.ready],[(0,116,5,[(4,(.const (.ref 0 0))),(5,(.const (.ref 1 0))),(6,(.const (.ref 2 0))),(7,(.const (.ref 3 0)))])],6,0,1⟩
def qe29_0 : Shape:=⟨[],[[(.sl .bool (.own 0))],[V0],[V0],[(.sl .bool (.own 1))],[V4],[(.const (.fn 117 [] []))]],[true,true],[.ready],[],6,0,1⟩
def qe29_r : Shape:=⟨[],[[(.sl .bool (.own 0))],[V0],[V0],[(.sl .bool (.own 1))],[V4],[(.const (.fn 117 [] []))]],[true,true],[.done .ret],[],6,0,1⟩
def qe29_rx1 : Shape:=⟨[],[[(.sl .bool (.own 0))],[V0],[V0],[(.sl .bool (.own 1))],[V4],[(.const (.fn 117 [] []))]],[true,true],[.ready],[],6,0,1⟩
noncomputable def ql29 (X : Type) (n : Nat) : LoopI X:=mkLi 6 6 0 1 qh29 [(0,qe29_0)] [qe29_r,qe29_rx1] n fun m ks => F.zx.L1_batch_all_bool_1 n (xe qe29_0 ks 0) (xr qe29_r ks) (xr qe29_rx1 ks) m
noncomputable def cx63 (X : Type) (n : Nat) : Cx X:=mkCx tab.get [(63,Tryz.f63),(116,Tryz.f116),(176,Tryz.f176),(217,Tryz.f217)] [o117 n] [(217,1,[ql29 X n])] [(116,5,Tryz.f116,[4,5,6,7],0)] [(116,8,[(0,3)])] []
theorem qo29 (X : Type) (n : Nat) : LO (cx63 X n) 217 Tryz.f217 0 (ql29 X n):=lok
theorem zv8 (X : Type) (n : Nat) : CxOK Tryz.prog SW (cx63 X n):=mx (J (J Tryz.func63 (by decide)) (J (J Tryz.func116 (by decide)) (J (J Tryz.func176 (by decide)) (T1 (J Tryz.func217 (by decide)))))) (T1 (zb (ok117 n))) (J (okc trivial trivial) (J (okc trivial (T1 (rfo (cx:=cx63 X n) (g:=116) (i:=5) (lv:=[4,5,6,7]) (show _ = some (Tryz.f116.ntmps,_,rfNo Tryz.f116 0) by kernel_rfl)))) (J (okc trivial trivial) (T1 (okc (T1 (T1 (qo29 X n))) trivial))))) (T1 (J Tryz.func116 rfl))
abbrev P63 : List SV:=[V4]
abbrev R63 : RV:=.many [V0,V0]
theorem ok63 (n : Nat) : FO 63 P63 R63 (F.zx n):=zf WOf.st (zv8 _ n) (d:=8) fun _ => by kernel_rfl
noncomputable def o63 (n : Nat):=oc 63 P63 R63 (F.zx n)
noncomputable def cx175 (X : Type) (n : Nat) : Cx X:=mkCx tab.get [(175,Tryz.f175)] [] [] [] [] []
theorem zsn (X : Type) (n : Nat) : CxOK Tryz.prog SW (cx175 X n):=mx (T1 (J Tryz.func175 (by decide))) trivial (T1 (okc trivial trivial)) trivial
abbrev P175 : List SV:=[V3]
abbrev R175 : RV:=.one .bool
theorem ok175 (n : Nat) : FO 175 P175 R175 (F.za0 n):=zf WOf.st (zsn _ n) (d:=8) fun _ => by kernel_rfl
noncomputable def o175 (n : Nat):=oc 175 P175 R175 (F.za0 n)
noncomputable def cx113 (X : Type) (n : Nat) : Cx X:=mkCx tab.get [(113,Tryz.f113)] [o175 n] [] [] [] []
theorem zso (X : Type) (n : Nat) : CxOK Tryz.prog SW (cx113 X n):=mx (T1 (J Tryz.func113 (by decide))) (T1 (zb (ok175 n))) (T1 (okc trivial trivial)) trivial
abbrev P113 : List SV:=[V3]
abbrev R113 : RV:=.one .bool
theorem ok113 (n : Nat) : FO 113 P113 R113 (F.zas n):=zf WOf.st (zso _ n) (d:=8) fun _ => by kernel_rfl
noncomputable def o113 (n : Nat):=oc 113 P113 R113 (F.zas n)
noncomputable def cx114 (X : Type) (n : Nat) : Cx X:=mkCx tab.get [(114,Tryz.f114)] [] [] [] [] []
theorem zsp (X : Type) (n : Nat) : CxOK Tryz.prog SW (cx114 X n):=mx (T1 (J Tryz.func114 (by decide))) trivial (T1 (okc trivial trivial)) trivial
abbrev P114 : List SV:=[V3]
abbrev R114 : RV:=.one .bool
theorem ok114 (n : Nat) : FO 114 P114 R114 (F.za6 n):=zf WOf.st (zsp _ n) (d:=8) fun _ => by kernel_rfl
noncomputable def o114 (n : Nat):=oc 114 P114 R114 (F.za6 n)
noncomputable def cx115 (X : Type) (n : Nat) : Cx X:=mkCx tab.get [(115,Tryz.f115)] [o175 n] [] [] [] []
theorem zsq (X : Type) (n : Nat) : CxOK Tryz.prog SW (cx115 X n):=mx (T1 (J Tryz.func115 (by decide))) (T1 (zb (ok175 n))) (T1 (okc trivial trivial)) trivial
abbrev P115 : List SV:=[V3]
abbrev R115 : RV:=.one .bool
theorem ok115 (n : Nat) : FO 115 P115 R115 (F.zao n):=zf WOf.st (zsq _ n) (d:=8) fun _ => by kernel_rfl
noncomputable def o115 (n : Nat):=oc 115 P115 R115 (F.zao n)
def qh30 : Shape:=⟨[(6,(.const (.fn 113 [] []))),(29,V4),(30,V0),(31,V0)],[[(.const (.fmp [(1,113),(2,114),(3,115),(4,114)]))]],[],[],[],1,0,0⟩
def qe30_0 : Shape:=⟨[],[[(.const (.fmp [(1,113),(2,114),(3,115),(4,114)]))]],[],[],[],1,0,0⟩
def qe30_r : Shape:=⟨[(4,V0),(5,V0)],[[(.const (.fmp [(1,113),(2,114),(3,115),(4,114)]))]],[],[],[],1,0,0⟩
noncomputable def ql30 (X : Type) (n : Nat) : LoopI X:=mkLi 8 0 0 0 qh30 [(0,qe30_0)] [qe30_r] n fun m ks => F.zq.L8 n (fun _ => xe qe30_0 ks 0) (xr qe30_r ks) m
def qh31 : Shape:=⟨[(6,(.const (.fn 114 [] []))),(29,V4),(30,V0),(31,V0)],[[(.const (.fmp [(1,113),(2,114),(3,115),(4,114)]))]],[],[],[],1,0,0⟩
def qe31_0 : Shape:=⟨[],[[(.const (.fmp [(1,113),(2,114),(3,115),(4,114)]))]],[],[],[],1,0,0⟩
def qe31_r : Shape:=⟨[(4,V0),(5,V0)],[[(.const (.fmp [(1,113),(2,114),(3,115),(4,114)]))]],[],[],[],1,0,0⟩
noncomputable def ql31 (X : Type) (n : Nat) : LoopI X:=mkLi 8 0 0 0 qh31 [(0,qe31_0)] [qe31_r] n fun m ks => F.zq.L8_1 n (fun _ => xe qe31_0 ks 0) (xr qe31_r ks) m
def qh32 : Shape:=⟨[(6,(.const (.fn 115 [] []))),(29,V4),(30,V0),(31,V0)],[[(.const (.fmp [(1,113),(2,114),(3,115),(4,114)]))]],[],[],[],1,0,0⟩
def qe32_0 : Shape:=⟨[],[[(.const (.fmp [(1,113),(2,114),(3,115),(4,114)]))]],[],[],[],1,0,0⟩
def qe32_r : Shape:=⟨[(4,V0),(5,V0)],[[(.const (.fmp [(1,113),(2,114),(3,115),(4,114)]))]],[],[],[],1,0,0⟩
noncomputable def ql32 (X : Type) (n : Nat) : LoopI X:=mkLi 8 0 0 0 qh32 [(0,qe32_0)] [qe32_r] n fun m ks => F.zq.L8_2 n (fun _ => xe qe32_0 ks 0) (xr qe32_r ks) m
noncomputable def cx32 (X : Type) (n : Nat) : Cx X:=mkCx tab.get [(32,Tryz.f32)] [o63 n,o113 n,o114 n,o115 n] [(32,8,[ql30 X n,ql31 X n,ql32 X n])] [] [] [] [] [] [(62,.fmts [(1,113),(2,114),(3,115),(4,114)])] none []
theorem qo30 (X : Type) (n : Nat) : LO (cx32 X n) 32 Tryz.f32 0 (ql30 X n):=lok
theorem qo31 (X : Type) (n : Nat) : LO (cx32 X n) 32 Tryz.f32 0 (ql31 X n):=lok
theorem qo32 (X : Type) (n : Nat) : LO (cx32 X n) 32 Tryz.f32 0 (ql32 X n):=lok
theorem zv9 (X : Type) (n : Nat) : CxOK Tryz.prog SW (cx32 X n):=mx (T1 (J Tryz.func32 (by decide))) (J (zb (ok63 n)) (J (zb (ok113 n)) (J (zb (ok114 n)) (T1 (zb (ok115 n)))))) (T1 (okc (T1 (J (qo30 X n) (J (qo31 X n) (T1 (qo32 X n))))) trivial)) trivial (T1 (znb.mono (fun _ _ => trivial)))
abbrev P32 : List SV:=[V4,V0]
abbrev R32 : RV:=.many [V0,V0]
theorem ok32 (n : Nat) : FO 32 P32 R32 (F.zq n):=zf WOf.st (zv9 _ n) (d:=8) fun _ => by kernel_rfl
noncomputable def o32 (n : Nat):=oc 32 P32 R32 (F.zq n)
noncomputable def cx64 (X : Type) (n : Nat) : Cx X:=mkCx tab.get [(64,Tryz.f64)] [o48 n,o113 n,o114 n,o115 n] [] [] [] [] [] [] [(62,.fmts [(1,113),(2,114),(3,115),(4,114)])] none []
theorem zwa (X : Type) (n : Nat) : CxOK Tryz.prog SW (cx64 X n):=mx (T1 (J Tryz.func64 (by decide))) (J (zb (ok48 n)) (J (zb (ok113 n)) (J (zb (ok114 n)) (T1 (zb (ok115 n)))))) (T1 (okc trivial trivial)) trivial (T1 (znb.mono (fun _ _ => trivial)))
abbrev P64 : List SV:=[V3,V0]
abbrev R64 : RV:=.one V0
theorem ok64 (n : Nat) : FO 64 P64 R64 (F.zav n):=zf WOf.st (zwa _ n) (d:=8) fun _ => by kernel_rfl
noncomputable def o64 (n : Nat):=oc 64 P64 R64 (F.zav n)
abbrev P92 : List SV:=[V0]
abbrev R92 : RV:=.many [.str,V0]
theorem ok92 (n : Nat) : FO 92 P92 R92 (O.word n):=zvc (enters Tryz.func92 (by kernel_rfl) (by decide)) Tryz.statsd_Word n
noncomputable def o92 (n : Nat):=oc 92 P92 R92 (O.word n)
abbrev P154 : List SV:=[V10,V0]
abbrev R154 : RV:=.one .str
theorem ok154 (n : Nat) : FO 154 P154 R154 (O.futoa n):=zr6 (enters Tryz.func154 (by kernel_rfl) (by decide)) (fun k hk w hw => (Tryz.strconv_FormatUint_10 k hk w (swTab hw)).mono fun e w' ⟨a,q,os,b⟩ => ⟨a,b ▸ zg1 q os⟩) n
noncomputable def o154 (n : Nat):=oc 154 P154 R154 (O.futoa n)
abbrev P155 : List SV:=[.str,V0]
abbrev R155 : RV:=.one .str
theorem ok155 (n : Nat) : FO 155 P155 R155 (O.repeat' n):=zp8 (enters Tryz.func155 (by kernel_rfl) (by decide)) Tryz.strings_Repeat n
noncomputable def o155 (n : Nat):=oc 155 P155 R155 (O.repeat' n)
noncomputable def cx93 (X : Type) (n : Nat) : Cx X:=mkCx tab.get [(93,Tryz.f93)] [o89 n,o154 n,o155 n] [] [] [] []
theorem zwb (X : Type) (n : Nat) : CxOK Tryz.prog SW (cx93 X n):=mx (T1 (J Tryz.func93 (by decide))) (J (zb (ok89 n)) (J (zb (ok154 n)) (T1 (zb (ok155 n))))) (T1 (okc trivial trivial)) trivial
abbrev P93 : List SV:=[V11]
abbrev R93 : RV:=.many [.str,V0]
theorem ok93 (n : Nat) : FO 93 P93 R93 (F.zbg n):=zf WOf.st (zwb _ n) (d:=8) fun _ => by kernel_rfl
noncomputable def o93 (n : Nat):=oc 93 P93 R93 (F.zbg n)
abbrev P156 : List SV:=[V0]
abbrev R156 : RV:=.one .str
theorem ok156 (n : Nat) : FO 156 P156 R156 (O.itoa n):=zu9 (enters Tryz.func156 (by kernel_rfl) (by decide)) (fun k h0 h1 w hw => (Tryz.strconv_Itoa k h0 h1 w (swTab hw)).mono fun e w' ⟨a,q,os,b⟩ => ⟨a,b ▸ zg1 q os⟩) n
noncomputable def o156 (n : Nat):=oc 156 P156 R156 (O.itoa n)
abbrev P157 : List SV:=[.str,.str]
abbrev R157 : RV:=.one .str
theorem ok157 (n : Nat) : FO 157 P157 R157 (O.trimR n):=zr7 (enters Tryz.func157 (by kernel_rfl) (by decide)) Tryz.strings_TrimRight_one n
noncomputable def o157 (n : Nat):=oc 157 P157 R157 (O.trimR n)
noncomputable def cx94 (X : Type) (n : Nat) : Cx X:=mkCx tab.get [(94,Tryz.f94)] [o156 n,o157 n] [] [] [] []
theorem zwc (X : Type) (n : Nat) : CxOK Tryz.prog SW (cx94 X n):=mx (T1 (J Tryz.func94 (by decide))) (J (zb (ok156 n)) (T1 (zb (ok157 n)))) (T1 (okc trivial trivial)) trivial
abbrev P94 : List SV:=[V0]
abbrev R94 : RV:=.many [.str,V0]
theorem ok94 (n : Nat) : FO 94 P94 R94 (F.zbc n):=zf WOf.st (zwc _ n) (d:=8) fun _ => by kernel_rfl
noncomputable def o94 (n : Nat):=oc 94 P94 R94 (F.zbc n)
noncomputable def cx56 (X : Type) (n : Nat) : Cx X:=mkCx tab.get [(56,Tryz.f56)] [o64 n,o92 n,o93 n,o94 n] [] [] [] []
theorem zwd (X : Type) (n : Nat) : CxOK Tryz.prog SW (cx56 X n):=mx (T1 (J Tryz.func56 (by decide))) (J (zb (ok64 n)) (J (zb (ok92 n)) (J (zb (ok93 n)) (T1 (zb (ok94 n)))))) (T1 (okc trivial trivial)) trivial
abbrev P56 : List SV:=[V3]
abbrev R56 : RV:=.many [.str,V0]
theorem ok56 (n : Nat) : FO 56 P56 R56 (F.zbk n):=zf WOf.st (zwd _ n) (d:=8) fun _ => by kernel_rfl
noncomputable def o56 (n : Nat):=oc 56 P56 R56 (F.zbk n)
noncomputable def cx166 (X : Type) (n : Nat) : Cx X:=mkCx tab.get [(166,Tryz.f166)] [] [] [] [] []
theorem zsr (X : Type) (n : Nat) : CxOK Tryz.prog SW (cx166 X n):=mx (T1 (J Tryz.func166 (by decide))) trivial (T1 (okc trivial trivial)) trivial
abbrev P166 : List SV:=[]
abbrev R166 : RV:=.one V15
theorem ok166 (n : Nat) : FO 166 P166 R166 (F.zco n):=zf WOf.st (zsr _ n) (d:=8) fun _ => by kernel_rfl
noncomputable def o166 (n : Nat):=oc 166 P166 R166 (F.zco n)
noncomputable def cx104 (X : Type) (n : Nat) : Cx X:=mkCx tab.get [(104,Tryz.f104)] [o166 n] [] [] [] []
theorem zss (X : Type) (n : Nat) : CxOK Tryz.prog SW (cx104 X n):=mx (T1 (J Tryz.func104 (by decide))) (T1 (zb (ok166 n))) (T1 (okc trivial trivial)) trivial
abbrev P104 : List SV:=[V0]
abbrev R104 : RV:=.many [.str,V0]
theorem ok104 (n : Nat) : FO 104 P104 R104 (F.zcc n):=zf WOf.st (zss _ n) (d:=8) fun _ => by kernel_rfl
noncomputable def o104 (n : Nat):=oc 104 P104 R104 (F.zcc n)
def qh33 : Shape:=⟨[(5,(.sl .str (.own 0))),(10,V2),(11,V0),(12,V0)],[],[true],[],[],0,0,0⟩
def qe33_0 : Shape:=⟨[(5,(.sl .str (.own 0)))],[],[true],[],[],0,0,0⟩
def qe33_r : Shape:=⟨[(2,.str),(3,V0),(4,V0)],[],[],[],[],0,0,0⟩
noncomputable def ql33 (X : Type) (n : Nat) : LoopI X:=mkLi 8 0 0 0 qh33 [(0,qe33_0)] [qe33_r] n fun m ks => F.zay.L3 n (xe qe33_0 ks 0) (xr qe33_r ks) m
noncomputable def cx105 (X : Type) (n : Nat) : Cx X:=mkCx tab.get [(105,Tryz.f105)] [o44 n,o150 n] [(105,3,[ql33 X n])] [] [] []
theorem qo33 (X : Type) (n : Nat) : LO (cx105 X n) 105 Tryz.f105 0 (ql33 X n):=lok
theorem zst (X : Type) (n : Nat) : CxOK Tryz.prog SW (cx105 X n):=mx (T1 (J Tryz.func105 (by decide))) (J (zb (ok44 n)) (T1 (zb (ok150 n)))) (T1 (okc (T1 (T1 (qo33 X n))) trivial)) trivial
abbrev P105 : List SV:=[V2]
abbrev R105 : RV:=.many [.str,V0,V0]
theorem ok105 (n : Nat) : FO 105 P105 R105 (F.zay n):=zf WOf.st (zst _ n) (d:=8) fun _ => by kernel_rfl
noncomputable def o105 (n : Nat):=oc 105 P105 R105 (F.zay n)
noncomputable def cx106 (X : Type) (n : Nat) : Cx X:=mkCx tab.get [(106,Tryz.f106)] [o156 n] [] [] [] []
theorem zsu (X : Type) (n : Nat) : CxOK Tryz.prog SW (cx106 X n):=mx (T1 (J Tryz.func106 (by decide))) (T1 (zb (ok156 n))) (T1 (okc trivial trivial)) trivial
abbrev P106 : List SV:=[V0]
abbrev R106 : RV:=.many [.str,V0]
theorem ok106 (n : Nat) : FO 106 P106 R106 (F.zbz n):=zf WOf.st (zsu _ n) (d:=8) fun _ => by kernel_rfl
noncomputable def o106 (n : Nat):=oc 106 P106 R106 (F.zbz n)
def qh34 : Shape:=⟨[(1,(.const (.ref 0 0))),(5,(.const (.ref 2 0))),(6,(.const (.ref 3 0))),(7,(.const (.fn 103 [] [(.ref 3 0),(.ref 2 0)]))),(34,V1),(35,V0),(36,V0)],[[.str,V0,V1,V0,V2,V0],[(.row (.u8t 5))],[(.const (.bcell 2 118)),(.ms 1 (.u8t 5))],[V0]],[],[],[],4,0,0⟩
def qe34_0 : Shape:=⟨[(1,(.const (.ref 0 0))),(5,(.const (.ref 2 0))),(6,(.const (.ref 3 0))),(7,(.const (.fn 103 [] [(.ref 3 0),(.ref 2 0)])))],[[.str,V0,V1,V0,V2,V0],[(.row (.u8t 5))],[(.const (.bcell 2 118)),(.ms 1 (.u8t 5))],[V0]],[],[],[],4,0,0⟩
noncomputable def ql34 (X : Type) (n : Nat) : LoopI X:=mkLi 8 0 0 0 qh34 [(0,qe34_0)] [] n fun m ks => F.zk.L9 n (xe qe34_0 ks 0) m
def qh35 : Shape:=⟨[(5,(.const (.ref 2 0))),(6,(.const (.ref 3 0)))],[[.str,V0,V1,V0,V2,V0],[(.row (.u8t 5))],[(.const (.bcell 2 118)),(.ms 1 (.u8t 5))],[V0]],[],[],[],4,0,0⟩
def qe35_r : Shape:=⟨[(2,.str),(3,V0)],[],[],[],[],0,0,0⟩
noncomputable def ql35 (X : Type) (n : Nat) : CutI X:=mkCi 8 0 0 0 qh35 [] [] [qe35_r] fun ks => F.zk.C25 n (xr qe35_r ks)
def qh36 : Shape:=⟨[(1,(.const (.ref 0 0))),(5,(.const (.ref 2 0))),(6,(.const (.ref 3 0))),(7,(.const (.fn 103 [] [(.ref 3 0),(.ref 2 0)])))],[[.str,V0,V1,V0,V2,V0],[(.row (.u8t 5))],[(.const (.bcell 2 118)),(.ms 1 (.u8t 5))],[V0]],[],[],[],4,0,0⟩
def qe36_r : Shape:=⟨[(2,.str),(3,V0)],[],[],[],[],0,0,0⟩
noncomputable def ql36 (X : Type) (n : Nat) : CutI X:=mkCi 8 0 0 0 qh36 [] [] [qe36_r] fun ks => F.zk.C22 n (xr qe36_r ks)
def qh37 : Shape:=⟨[(1,(.const (.ref 0 0))),(5,(.const (.ref 2 0))),(6,(.const (.ref 3 0))),(7,(.const (.fn 103 [] [(.ref 3 0),(.ref 2 0)])))],[[.str,V0,V1,V0,V2,V0],[(.row (.u8t 5))],[(.const (.bcell 2 118)),(.ms 1 (.u8t 5))],[V0]],[],[],[],4,0,0⟩
def qe37_r : Shape:=⟨[(2,.str),(3,V0)],[],[],[],[],0,0,0⟩
noncomputable def ql37 (X : Type) (n : Nat) : CutI X:=mkCi 8 0 0 0 qh37 [] [] [qe37_r] fun ks => F.zk.C19 n (xr qe37_r ks)
def qh38 : Shape:=⟨[(1,(.const (.ref 0 0))),(5,(.const (.ref 2 0))),(6,(.const (.ref 3 0))),(7,(.const (.fn 103 [] [(.ref 3 0),(.ref 2 0)])))],[[.str,V0,V1,V0,V2,V0],[(.row (.u8t 5))],[(.const (.bcell 2 118)),(.ms 1 (.u8t 5))],[V0]],[],[],[],4,0,0⟩
def qe38_r : Shape:=⟨[(2,.str),(3,V0)],[],[],[],[],0,0,0⟩
noncomputable def ql38 (X : Type) (n : Nat) : CutI X:=mkCi 8 0 0 0 qh38 [] [] [qe38_r] fun ks => F.zk.C16 n (xr qe38_r ks)
noncomputable def cx58 (X : Type) (n : Nat) : Cx X:=mkCx tab.get [(58,Tryz.f58),(75,Tryz.f75),(103,Tryz.f103)] [o47 n,o93 n,o94 n,o104 n,o105 n,o106 n] [(58,9,[ql34 X n])] [] [] [] [(58,16,[ql38 X n]),(58,19,[ql37 X n]),(58,22,[ql36 X n]),(58,25,[ql35 X n])] [] [(76,.bstring 118 5),(135,.bcheck 118)] (some (118,5)) []
theorem qo35 (X : Type) (n : Nat) : CO (cx58 X n) 58 Tryz.f58 24 (ql35 X n):=fun _ _ => by kernel_rfl
theorem qo36 (X : Type) (n : Nat) : CO (cx58 X n) 58 Tryz.f58 21 (ql36 X n):=fun _ _ => by kernel_rfl
theorem qo37 (X : Type) (n : Nat) : CO (cx58 X n) 58 Tryz.f58 18 (ql37 X n):=fun _ _ => by kernel_rfl
theorem qo38 (X : Type) (n : Nat) : CO (cx58 X n) 58 Tryz.f58 17 (ql38 X n):=fun _ _ => by kernel_rfl
theorem qo34 (X : Type) (n : Nat) : LO (cx58 X n) 58 Tryz.f58 0 (ql34 X n):=lok
theorem zwe (X : Type) (n : Nat) : CxOK Tryz.prog SW (cx58 X n):=mx (J (J Tryz.func58 (by decide)) (J (J Tryz.func75 (by decide)) (T1 (J Tryz.func103 (by decide))))) (J (zb (ok47 n)) (J (zb (ok93 n)) (J (zb (ok94 n)) (J (zb (ok104 n)) (J (zb (ok105 n)) (T1 (zb (ok106 n)))))))) (J (okk (J trivial (J trivial (J trivial (J trivial (J trivial (J trivial (J trivial (J trivial (J trivial (J trivial (J trivial (J trivial (J trivial (J trivial (J trivial (J trivial (J trivial (J (T1 (qo38 X n)) (J (T1 (qo37 X n)) (J trivial (J trivial (J (T1 (qo36 X n)) (J trivial (J trivial (J (T1 (qo35 X n)) (J trivial (J trivial (J trivial (J trivial (J trivial (T1 trivial))))))))))))))))))))))))))))))) (T1 (T1 (qo34 X n))) trivial) (J (okc trivial trivial) (T1 (okc trivial trivial)))) trivial (J (zob.mono (fun _ _ => trivial)) (T1 (zkq.mono (fun _ _ => trivial))))
abbrev P58 : List SV:=[V3]
abbrev R58 : RV:=.many [.str,V0]
theorem ok58 (n : Nat) : FO 58 P58 R58 (F.zk n):=zf WOf.st (zwe _ n) (d:=8) fun _ => by kernel_rfl
noncomputable def o58 (n : Nat):=oc 58 P58 R58 (F.zk n)
noncomputable def cx60 (X : Type) (n : Nat) : Cx X:=mkCx tab.get [(60,Tryz.f60)] [o64 n,o93 n,o106 n] [] [] [] []
theorem zwf (X : Type) (n : Nat) : CxOK Tryz.prog SW (cx60 X n):=mx (T1 (J Tryz.func60 (by decide))) (J (zb (ok64 n)) (J (zb (ok93 n)) (T1 (zb (ok106 n))))) (T1 (okc trivial trivial)) trivial
abbrev P60 : List SV:=[V3]
abbrev R60 : RV:=.many [.str,V0]
theorem ok60 (n : Nat) : FO 60 P60 R60 (F.zba n):=zf WOf.st (zwf _ n) (d:=8) fun _ => by kernel_rfl
noncomputable def o60 (n : Nat):=oc 60 P60 R60 (F.zba n)
noncomputable def cx33 (X : Type) (n : Nat) : Cx X:=mkCx tab.get [(31,Tryz.f31),(33,Tryz.f33)] [o47 n,o56 n,o58 n,o60 n,o64 n] [] [] [] []
theorem zwg (X : Type) (n : Nat) : CxOK Tryz.prog SW (cx33 X n):=mx (J (J Tryz.func31 (by decide)) (T1 (J Tryz.func33 (by decide)))) (J (zb (ok47 n)) (J (zb (ok56 n)) (J (zb (ok58 n)) (J (zb (ok60 n)) (T1 (zb (ok64 n))))))) (J (okc trivial trivial) (T1 (okc trivial trivial))) trivial
abbrev P33 : List SV:=[V3,V0]
abbrev R33 : RV:=.many [.str,V0]
theorem ok33 (n : Nat) : FO 33 P33 R33 (F.zb3 n):=zf WOf.st (zwg _ n) (d:=8) fun _ => by kernel_rfl
noncomputable def o33 (n : Nat):=oc 33 P33 R33 (F.zb3 n)
def qh39 : Shape:=⟨[(1,V0),(13,(.sl .str (.own 0))),(48,V4),(49,V0),(50,V0)],[[(.const (.fn 56 [] [])),(.const (.fn 57 [] []))],[(.const (.fn 56 [] [])),(.const (.fn 57 [] []))]],[true],[],[],2,0,0⟩
def qe39_0 : Shape:=⟨[(13,(.sl .str (.own 0)))],[[(.const (.fn 56 [] [])),(.const (.fn 57 [] []))],[(.const (.fn 56 [] [])),(.const (.fn 57 [] []))]],[true],[],[],2,0,0⟩
def qe39_r : Shape:=⟨[(4,(.sl .str (.own 0))),(5,V0),(6,V0)],[[(.const (.fn 56 [] [])),(.const (.fn 57 [] []))],[(.const (.fn 56 [] [])),(.const (.fn 57 [] []))]],[true],[],[],2,0,0⟩
noncomputable def ql39 (X : Type) (n : Nat) : LoopI X:=mkLi 8 0 0 0 qh39 [(0,qe39_0)] [qe39_r] n fun m ks => F.zy.L12 n (xe qe39_0 ks 0) (xr qe39_r ks) m
def qh40 : Shape:=⟨[(1,V0),(13,(.sl .str (.own 0))),(48,V4),(49,V0),(50,V0)],[[(.const (.fn 58 [] [])),(.const (.fn 59 [] []))],[(.const (.fn 58 [] [])),(.const (.fn 59 [] []))]],[true],[],[],2,0,0⟩
def qe40_0 : Shape:=⟨[(13,(.sl .str (.own 0)))],[[(.const (.fn 58 [] [])),(.const (.fn 59 [] []))],[(.const (.fn 58 [] [])),(.const (.fn 59 [] []))]],[true],[],[],2,0,0⟩
def qe40_r : Shape:=⟨[(4,(.sl .str (.own 0))),(5,V0),(6,V0)],[[(.const (.fn 58 [] [])),(.const (.fn 59 [] []))],[(.const (.fn 58 [] [])),(.const (.fn 59 [] []))]],[true],[],[],2,0,0⟩
noncomputable def ql40 (X : Type) (n : Nat) : LoopI X:=mkLi 8 0 0 0 qh40 [(0,qe40_0)] [qe40_r] n fun m ks => F.zy.L12 n (xe qe40_0 ks 0) (xr qe40_r ks) m
def qh41 : Shape:=⟨[(1,V0),(13,(.sl .str (.own 0))),(48,V4),(49,V0),(50,V0)],[[(.const (.fn 60 [] [])),(.const (.fn 61 [] []))],[(.const (.fn 60 [] [])),(.const (.fn 61 [] []))]],[true],[],[],2,0,0⟩
def qe41_0 : Shape:=⟨[(13,(.sl .str (.own 0)))],[[(.const (.fn 60 [] [])),(.const (.fn 61 [] []))],[(.const (.fn 60 [] [])),(.const (.fn 61 [] []))]],[true],[],[],2,0,0⟩
def qe41_r : Shape:=⟨[(4,(.sl .str (.own 0))),(5,V0),(6,V0)],[[(.const (.fn 60 [] [])),(.const (.fn 61 [] []))],[(.const (.fn 60 [] [])),(.const (.fn 61 [] []))]],[true],[],[],2,0,0⟩
noncomputable def ql41 (X : Type) (n : Nat) : LoopI X:=mkLi 8 0 0 0 qh41 [(0,qe41_0)] [qe41_r] n fun m ks => F.zy.L12 n (xe qe41_0 ks 0) (xr qe41_r ks) m
noncomputable def cx16 (X : Type) (n : Nat) : Cx X:=mkCx tab.get [(16,Tryz.f16),(31,Tryz.f31)] [o25 n,o32 n,o33 n] [(16,12,[ql39 X n,ql40 X n,ql41 X n])] [] [] []
theorem qo39 (X : Type) (n : Nat) : LO (cx16 X n) 16 Tryz.f16 0 (ql39 X n):=lok
theorem qo40 (X : Type) (n : Nat) : LO (cx16 X n) 16 Tryz.f16 0 (ql40 X n):=lok
theorem qo41 (X : Type) (n : Nat) : LO (cx16 X n) 16 Tryz.f16 0 (ql41 X n):=lok
theorem zwh (X : Type) (n : Nat) : CxOK Tryz.prog SW (cx16 X n):=mx (J (J Tryz.func16 (by decide)) (T1 (J Tryz.func31 (by decide)))) (J (zb (ok25 n)) (J (zb (ok32 n)) (T1 (zb (ok33 n))))) (J (okc (T1 (J (qo39 X n) (J (qo40 X n) (T1 (qo41 X n))))) trivial) (T1 (okc trivial trivial))) trivial
abbrev P16 : List SV:=[V4,V0]
abbrev R16 : RV:=.many [V6,V0,V0]
theorem ok16 (n : Nat) : FO 16 P16 R16 (F.zy n):=zf WOf.st (zwh _ n) (d:=8) fun _ => by kernel_rfl
noncomputable def o16 (n : Nat):=oc 16 P16 R16 (F.zy n)
noncomputable def cx6 (X : Type) (n : Nat) : Cx X:=mkCx tab.get [(6,Tryz.f6)] [o12 n,o14 n,o15 n,o16 n] [] [] [] []
theorem zxy (X : Type) (n : Nat) : CxOK Tryz.prog SW (cx6 X n):=mx (T1 (J Tryz.func6 (by decide))) (J (zb (ok12 n)) (J (zb (ok14 n)) (J (zb (ok15 n)) (T1 (zb (ok16 n)))))) (T1 (okc trivial trivial)) trivial
abbrev P6 : List SV:=[V4,V0,V0]
abbrev R6 : RV:=.many [V5,V0,V0]
theorem ok6 (n : Nat) : FO 6 P6 R6 (F.zbu n):=zf WOf.st (zxy _ n) (d:=8) fun _ => by kernel_rfl
noncomputable def o6 (n : Nat):=oc 6 P6 R6 (F.zbu n)
noncomputable def cx17 (X : Type) (n : Nat) : Cx X:=mkCx tab.get [(17,Tryz.f17)] [] [] [] [] []
theorem zwi (X : Type) (n : Nat) : CxOK Tryz.prog SW (cx17 X n):=mx (T1 (J Tryz.func17 (by decide))) trivial (T1 (okc trivial trivial)) trivial
abbrev P17 : List SV:=[V0]
abbrev R17 : RV:=.one .bool
theorem ok17 (n : Nat) : FO 17 P17 R17 (F.zb4 n):=zf WOf.st (zwi _ n) (d:=8) fun _ => by kernel_rfl
noncomputable def o17 (n : Nat):=oc 17 P17 R17 (F.zb4 n)
noncomputable def cx218 (X : Type) (n : Nat) : Cx X:=mkCx tab.get [(218,Tryz.f218)] [] [] [] [] []
theorem zsv (X : Type) (n : Nat) : CxOK Tryz.prog SW (cx218 X n):=mx (T1 (J Tryz.func218 (by decide))) trivial (T1 (okc trivial trivial)) trivial
abbrev P218 : List SV:=[.str]
abbrev R218 : RV:=.one .bool
theorem ok218 (n : Nat) : FO 218 P218 R218 (F.zbh n):=zf WOf.st (zsv _ n) (d:=8) fun _ => by kernel_rfl
noncomputable def o218 (n : Nat):=oc 218 P218 R218 (F.zbh n)
def qh42 : Shape:=⟨[(0,.str),(3,V10),(4,V0)],[],[],[],[],0,0,0⟩
def qe42_0 : Shape:=⟨[(3,V10)],[],[],[],[],0,0,0⟩
noncomputable def ql42 (X : Type) (n : Nat) : LoopI X:=mkLi 8 0 0 0 qh42 [(0,qe42_0)] [] n fun m ks => F.zaa.L3 n (xe qe42_0 ks 0) m
noncomputable def cx219 (X : Type) (n : Nat) : Cx X:=mkCx tab.get [(219,Tryz.f219)] [] [(219,3,[ql42 X n])] [] [] []
theorem qo42 (X : Type) (n : Nat) : LO (cx219 X n) 219 Tryz.f219 0 (ql42 X n):=lok
theorem zsw (X : Type) (n : Nat) : CxOK Tryz.prog SW (cx219 X n):=mx (T1 (J Tryz.func219 (by decide))) trivial (T1 (okc (T1 (T1 (qo42 X n))) trivial)) trivial
abbrev P219 : List SV:=[.str]
abbrev R219 : RV:=.one V10
theorem ok219 (n : Nat) : FO 219 P219 R219 (F.zaa n):=zf WOf.st (zsw _ n) (d:=8) fun _ => by kernel_rfl
noncomputable def o219 (n : Nat):=oc 219 P219 R219 (F.zaa n)
def qh43 : Shape:=⟨[(0,.bool),(1,.str),(2,V0),(6,(.const (.ref 0 0)))],[[.bool,V10,V0]],[],[],[],1,0,0⟩
def qe43_0 : Shape:=⟨[(0,.bool),(1,.str),(2,V0),(6,(.const (.ref 0 0)))],[[.bool,V10,V0]],[],[],[],1,0,0⟩
noncomputable def ql43 (X : Type) (n : Nat) : LoopI X:=mkLi 8 0 0 0 qh43 [(0,qe43_0)] [] n fun m ks => F.ze.L1 n (xe qe43_0 ks 0) m
def qh44 : Shape:=⟨[(0,.bool),(1,.str),(2,V0),(6,(.const (.ref 0 0)))],[[.bool,V10,V0]],[],[],[],1,0,0⟩
def qe44_2 : Shape:=⟨[(0,.bool),(1,.str),(2,V0),(6,(.const (.ref 0 0)))],[[.bool,V10,V0]],[],[],[],1,0,0⟩
noncomputable def ql44 (X : Type) (n : Nat) : LoopI X:=mkLi 8 0 0 0 qh44 [(2,qe44_2)] [] n fun m ks => F.ze.L7 n (xe qe44_2 ks 2) m
def qh45 : Shape:=⟨[(0,.bool),(1,.str),(2,V0),(6,(.const (.ref 0 0)))],[[.bool,V10,V0]],[],[],[],1,0,0⟩
def qe45_4 : Shape:=⟨[(0,.bool),(1,.str),(2,V0),(6,(.const (.ref 0 0)))],[[.bool,V10,V0]],[],[],[],1,0,0⟩
noncomputable def ql45 (X : Type) (n : Nat) : LoopI X:=mkLi 8 0 0 0 qh45 [(4,qe45_4)] [] n fun m ks => F.ze.L10 n (xe qe45_4 ks 4) m
noncomputable def cx177 (X : Type) (n : Nat) : Cx X:=mkCx tab.get [(177,Tryz.f177)] [o218 n,o219 n] [(177,1,[ql43 X n]),(177,7,[ql44 X n]),(177,10,[ql45 X n])] [] [] []
theorem qo43 (X : Type) (n : Nat) : LO (cx177 X n) 177 Tryz.f177 0 (ql43 X n):=lok
theorem qo44 (X : Type) (n : Nat) : LO (cx177 X n) 177 Tryz.f177 1 (ql44 X n):=lok
theorem qo45 (X : Type) (n : Nat) : LO (cx177 X n) 177 Tryz.f177 2 (ql45 X n):=lok
theorem zsx (X : Type) (n : Nat) : CxOK Tryz.prog SW (cx177 X n):=mx (T1 (J Tryz.func177 (by decide))) (J (zb (ok218 n)) (T1 (zb (ok219 n)))) (T1 (okc (J (T1 (qo43 X n)) (J (T1 (qo44 X n)) (T1 (T1 (qo45 X n))))) trivial)) trivial
abbrev P177 : List SV:=[.bool,.str,V0]
abbrev R177 : RV:=.many [V11,.bool]
theorem ok177 (n : Nat) : FO 177 P177 R177 (F.ze n):=zf WOf.st (zsx _ n) (d:=8) fun _ => by kernel_rfl
noncomputable def o177 (n : Nat):=oc 177 P177 R177 (F.ze n)
abbrev P178 : List SV:=[V10]
abbrev R178 : RV:=.one .str
noncomputable def cx178 (X : Type) (n m : Nat) : Cx X:=mkCx tab.get [(178,Tryz.f178)] [(178,orcOf P178 R178 (appL P178 (F.zad.go n m)))] [] [] [] []
theorem zsy (X : Type) (n m : Nat) (ih : FO 178 P178 R178 (F.zad.go n m)) : CxOK Tryz.prog SW (cx178 X n m):=mx (T1 (J Tryz.func178 (by decide))) (T1 (zb (ih))) (T1 (okc trivial trivial)) trivial
theorem zkr (n : Nat) : ∀ m : Nat,FO 178 P178 R178 (F.zad.go n m)
  | 0 => fun x y hy => by cases hy
  | m + 1 => zf WOf.st (zsy _ n m (zkr n m)) (d:=8) fun _ => by kernel_rfl
theorem ok178 (n : Nat) : FO 178 P178 R178 (F.zad n):=zkr n n
noncomputable def o178 (n : Nat):=oc 178 P178 R178 (F.zad n)
noncomputable def cx118 (X : Type) (n : Nat) : Cx X:=mkCx tab.get [(118,Tryz.f118)] [o177 n,o178 n] [] [] [(118,1,[(1,11),(3,11),(6,11)])] []
theorem zsz (X : Type) (n : Nat) : CxOK Tryz.prog SW (cx118 X n):=mx (T1 (J Tryz.func118 (by decide))) (J (zb (ok177 n)) (T1 (zb (ok178 n)))) (T1 (okc trivial trivial)) trivial
abbrev P118 : List SV:=[V11]
abbrev R118 : RV:=.many [V11,V0]
theorem ok118 (n : Nat) : FO 118 P118 R118 (F.zbm n):=zf WOf.st (zsz _ n) (d:=8) fun _ => by kernel_rfl
noncomputable def o118 (n : Nat):=oc 118 P118 R118 (F.zbm n)
def qh46 : Shape:=⟨[(0,.str),(3,V0)],[],[],[],[],0,0,0⟩
def qe46_0 : Shape:=⟨[(0,.str)],[],[],[],[],0,0,0⟩
def qe46_r : Shape:=⟨[(2,.bool)],[],[],[],[],0,0,0⟩
noncomputable def ql46 (X : Type) (n : Nat) : LoopI X:=mkLi 8 0 0 0 qh46 [(0,qe46_0)] [qe46_r] n fun m ks => F.zac.L2 n (xe qe46_0 ks 0) (xr qe46_r ks) m
noncomputable def cx179 (X : Type) (n : Nat) : Cx X:=mkCx tab.get [(179,Tryz.f179)] [] [(179,2,[ql46 X n])] [] [] []
theorem qo46 (X : Type) (n : Nat) : LO (cx179 X n) 179 Tryz.f179 0 (ql46 X n):=lok
theorem zs0 (X : Type) (n : Nat) : CxOK Tryz.prog SW (cx179 X n):=mx (T1 (J Tryz.func179 (by decide))) trivial (T1 (okc (T1 (T1 (qo46 X n))) trivial)) trivial
abbrev P179 : List SV:=[.str]
abbrev R179 : RV:=.one .bool
theorem ok179 (n : Nat) : FO 179 P179 R179 (F.zac n):=zf WOf.st (zs0 _ n) (d:=8) fun _ => by kernel_rfl
noncomputable def o179 (n : Nat):=oc 179 P179 R179 (F.zac n)
noncomputable def cx276 (X : Type) (n : Nat) : Cx X:=mkCx tab.get [(276,Tryz.f276)] [] [] [] [] []
theorem zs1 (X : Type) (n : Nat) : CxOK Tryz.prog SW (cx276 X n):=mx (T1 (J Tryz.func276 (by decide))) trivial (T1 (okc trivial trivial)) trivial
abbrev P276 : List SV:=[V0]
abbrev R276 : RV:=.one .str
theorem ok276 (n : Nat) : FO 276 P276 R276 (F.zbv n):=zf WOf.st (zs1 _ n) (d:=8) fun _ => by kernel_rfl
noncomputable def o276 (n : Nat):=oc 276 P276 R276 (F.zbv n)
def qh47 : Shape:=⟨[(1,V8),(5,.str),(6,V0)],[],[],[],[],0,0,0⟩
def qe47_0 : Shape:=⟨[],[],[],[],[],0,0,0⟩
def qe47_r : Shape:=⟨[(4,.bool)],[],[],[],[],0,0,0⟩
noncomputable def ql47 (X : Type) (n : Nat) : LoopI X:=mkLi 8 0 0 0 qh47 [(0,qe47_0)] [qe47_r] n fun m ks => F.zat.L3 n (fun _ => xe qe47_0 ks 0) (xr qe47_r ks) m
noncomputable def cx272 (X : Type) (n : Nat) : Cx X:=mkCx tab.get [(272,Tryz.f272)] [o276 n] [(272,3,[ql47 X n])] [] [] []
theorem qo47 (X : Type) (n : Nat) : LO (cx272 X n) 272 Tryz.f272 0 (ql47 X n):=lok
theorem zs2 (X : Type) (n : Nat) : CxOK Tryz.prog SW (cx272 X n):=mx (T1 (J Tryz.func272 (by decide))) (T1 (zb (ok276 n))) (T1 (okc (T1 (T1 (qo47 X n))) trivial)) trivial
abbrev P272 : List SV:=[V0,V8]
abbrev R272 : RV:=.one .bool
theorem ok272 (n : Nat) : FO 272 P272 R272 (F.zat n):=zf WOf.st (zs2 _ n) (d:=8) fun _ => by kernel_rfl
noncomputable def o272 (n : Nat):=oc 272 P272 R272 (F.zat n)
def qh48 : Shape:=⟨[(0,V0),(1,.str),(5,V0)],[],[],[],[],0,0,0⟩
def qe48_0 : Shape:=⟨[],[],[],[],[],0,0,0⟩
def qe48_r : Shape:=⟨[(4,V0)],[],[],[],[],0,0,0⟩
noncomputable def ql48 (X : Type) (n : Nat) : LoopI X:=mkLi 8 0 0 0 qh48 [(0,qe48_0)] [qe48_r] n fun m ks => F.zap.L2 n (fun _ => xe qe48_0 ks 0) (xr qe48_r ks) m
noncomputable def cx261 (X : Type) (n : Nat) : Cx X:=mkCx tab.get [(261,Tryz.f261)] [o272 n] [(261,2,[ql48 X n])] [] [] []
theorem qo48 (X : Type) (n : Nat) : LO (cx261 X n) 261 Tryz.f261 0 (ql48 X n):=lok
theorem zs3 (X : Type) (n : Nat) : CxOK Tryz.prog SW (cx261 X n):=mx (T1 (J Tryz.func261 (by decide))) (T1 (zb (ok272 n))) (T1 (okc (T1 (T1 (qo48 X n))) trivial)) trivial
abbrev P261 : List SV:=[V0,.str]
abbrev R261 : RV:=.one V0
theorem ok261 (n : Nat) : FO 261 P261 R261 (F.zap n):=zf WOf.st (zs3 _ n) (d:=8) fun _ => by kernel_rfl
noncomputable def o261 (n : Nat):=oc 261 P261 R261 (F.zap n)
noncomputable def cx246 (X : Type) (n : Nat) : Cx X:=mkCx tab.get [(246,Tryz.f246)] [o261 n] [] [] [] []
theorem zs4 (X : Type) (n : Nat) : CxOK Tryz.prog SW (cx246 X n):=mx (T1 (J Tryz.func246 (by decide))) (T1 (zb (ok261 n))) (T1 (okc trivial trivial)) trivial
abbrev P246 : List SV:=[V0,.str,V0,V0]
abbrev R246 : RV:=.one V9
theorem ok246 (n : Nat) : FO 246 P246 R246 (F.zbp n):=zf WOf.st (zs4 _ n) (d:=8) fun _ => by kernel_rfl
noncomputable def o246 (n : Nat):=oc 246 P246 R246 (F.zbp n)
noncomputable def cx220 (X : Type) (n : Nat) : Cx X:=mkCx tab.get [(220,Tryz.f220)] [o246 n] [] [] [] []
theorem zs5 (X : Type) (n : Nat) : CxOK Tryz.prog SW (cx220 X n):=mx (T1 (J Tryz.func220 (by decide))) (T1 (zb (ok246 n))) (T1 (okc trivial trivial)) trivial
abbrev P220 : List SV:=[V12]
abbrev R220 : RV:=.one .bool
theorem ok220 (n : Nat) : FO 220 P220 R220 (F.zcd n):=zf WOf.st (zs5 _ n) (d:=8) fun _ => by kernel_rfl
noncomputable def o220 (n : Nat):=oc 220 P220 R220 (F.zcd n)
noncomputable def cx180 (X : Type) (n : Nat) : Cx X:=mkCx tab.get [(180,Tryz.f180)] [o220 n] [] [] [] []
theorem zs6 (X : Type) (n : Nat) : CxOK Tryz.prog SW (cx180 X n):=mx (T1 (J Tryz.func180 (by decide))) (T1 (zb (ok220 n))) (T1 (okc trivial trivial)) trivial
abbrev P180 : List SV:=[V12]
abbrev R180 : RV:=.one V0
theorem ok180 (n : Nat) : FO 180 P180 R180 (F.zbw n):=zf WOf.st (zs6 _ n) (d:=8) fun _ => by kernel_rfl
noncomputable def o180 (n : Nat):=oc 180 P180 R180 (F.zbw n)
def qh49 : Shape:=⟨[(2,(.const (.ref 0 0))),(5,V0)],[[.str,V0,V1,V0,V2,V0]],[],[],[],1,0,0⟩
def qe49_0 : Shape:=⟨[(2,(.const (.ref 0 0)))],[[.str,V0,V1,V0,V2,V0]],[],[],[],1,0,0⟩
def qe49_r : Shape:=⟨[(4,V0)],[[.str,V0,V1,V0,V2,V0]],[],[],[],1,0,0⟩
noncomputable def ql49 (X : Type) (n : Nat) : LoopI X:=mkLi 8 0 0 0 qh49 [(0,qe49_0)] [qe49_r] n fun m ks => F.zw.L12 n (xe qe49_0 ks 0) (xr qe49_r ks) m
noncomputable def cx119 (X : Type) (n : Nat) : Cx X:=mkCx tab.get [(119,Tryz.f119)] [o179 n,o180 n] [(119,12,[ql49 X n])] [] [] []
theorem qo49 (X : Type) (n : Nat) : LO (cx119 X n) 119 Tryz.f119 0 (ql49 X n):=lok
theorem zs7 (X : Type) (n : Nat) : CxOK Tryz.prog SW (cx119 X n):=mx (T1 (J Tryz.func119 (by decide))) (J (zb (ok179 n)) (T1 (zb (ok180 n)))) (T1 (okc (T1 (T1 (qo49 X n))) trivial)) trivial
abbrev P119 : List SV:=[V3,.bool]
abbrev R119 : RV:=.one V0
theorem ok119 (n : Nat) : FO 119 P119 R119 (F.zw n):=zf WOf.st (zs7 _ n) (d:=8) fun _ => by kernel_rfl
noncomputable def o119 (n : Nat):=oc 119 P119 R119 (F.zw n)
def qh50 : Shape:=⟨[(0,.str),(1,.str),(5,V0)],[],[],[],[],0,0,0⟩
def qe50_0 : Shape:=⟨[(0,.str),(1,.str)],[],[],[],[],0,0,0⟩
def qe50_r : Shape:=⟨[(4,.bool)],[],[],[],[],0,0,0⟩
noncomputable def ql50 (X : Type) (n : Nat) : LoopI X:=mkLi 8 0 0 0 qh50 [(0,qe50_0)] [qe50_r] n fun m ks => F.zz.L2 n (xe qe50_0 ks 0) (xr qe50_r ks) m
noncomputable def cx221 (X : Type) (n : Nat) : Cx X:=mkCx tab.get [(221,Tryz.f221)] [] [(221,2,[ql50 X n])] [] [] []
theorem qo50 (X : Type) (n : Nat) : LO (cx221 X n) 221 Tryz.f221 0 (ql50 X n):=lok
theorem zs8 (X : Type) (n : Nat) : CxOK Tryz.prog SW (cx221 X n):=mx (T1 (J Tryz.func221 (by decide))) trivial (T1 (okc (T1 (T1 (qo50 X n))) trivial)) trivial
abbrev P221 : List SV:=[.str,.str]
abbrev R221 : RV:=.one .bool
theorem ok221 (n : Nat) : FO 221 P221 R221 (F.zz n):=zf WOf.st (zs8 _ n) (d:=8) fun _ => by kernel_rfl
noncomputable def o221 (n : Nat):=oc 221 P221 R221 (F.zz n)
noncomputable def cx181 (X : Type) (n : Nat) : Cx X:=mkCx tab.get [(181,Tryz.f181)] [o221 n] [] [] [] []
theorem zs9 (X : Type) (n : Nat) : CxOK Tryz.prog SW (cx181 X n):=mx (T1 (J Tryz.func181 (by decide))) (T1 (zb (ok221 n))) (T1 (okc trivial trivial)) trivial
abbrev P181 : List SV:=[V12,V12]
abbrev R181 : RV:=.one .bool
theorem ok181 (n : Nat) : FO 181 P181 R181 (F.zb9 n):=zf WOf.st (zs9 _ n) (d:=8) fun _ => by kernel_rfl
noncomputable def o181 (n : Nat):=oc 181 P181 R181 (F.zb9 n)
def qh51 : Shape:=⟨[(0,V2),(3,(.sl Y3 (.own 0))),(4,V0),(5,(.sl Y3 (.own 1))),(6,.bool),(7,V0)],[],[true,true],[],[],0,0,0⟩
def qe51_2 : Shape:=⟨[(0,V2),(4,V0),(5,(.sl Y3 (.own 0))),(6,.bool)],[],[true],[],[],0,0,0⟩
noncomputable def ql51 (X : Type) (n : Nat) : LoopI X:=mkLi 8 0 0 0 qh51 [(2,qe51_2)] [] n fun m ks => F.zi.L8 n (xe qe51_2 ks 2) m
def qh52 : Shape:=⟨[(0,V2),(3,(.sl Y3 (.own 0))),(4,V0)],[],[true],[],[],0,0,0⟩
def qe52_0 : Shape:=⟨[(3,(.sl Y3 (.own 0)))],[],[true],[],[],0,0,0⟩
noncomputable def ql52 (X : Type) (n : Nat) : LoopI X:=mkLi 8 0 0 0 qh52 [(0,qe52_0)] [] n fun m ks => F.zi.L3 n (xe qe52_0 ks 0) m
noncomputable def cx120 (X : Type) (n : Nat) : Cx X:=mkCx tab.get [(120,Tryz.f120)] [o181 n] [(120,3,[ql52 X n]),(120,8,[ql51 X n])] [] [] []
theorem qo51 (X : Type) (n : Nat) : LO (cx120 X n) 120 Tryz.f120 1 (ql51 X n):=lok
theorem qo52 (X : Type) (n : Nat) : LO (cx120 X n) 120 Tryz.f120 0 (ql52 X n):=lok
theorem zta (X : Type) (n : Nat) : CxOK Tryz.prog SW (cx120 X n):=mx (T1 (J Tryz.func120 (by decide))) (T1 (zb (ok181 n))) (T1 (okc (J (T1 (qo52 X n)) (T1 (T1 (qo51 X n)))) trivial)) trivial
abbrev P120 : List SV:=[V2]
abbrev R120 : RV:=.one V2
theorem ok120 (n : Nat) : FO 120 P120 R120 (F.zi n):=zf WOf.st (zta _ n) (d:=8) fun _ => by kernel_rfl
noncomputable def o120 (n : Nat):=oc 120 P120 R120 (F.zi n)
def qh53 : Shape:=⟨[(1,(.const (.ref 0 0))),(2,(.const (.ref 1 0))),(4,.bool),(5,(.sl Y2 (.own 0))),(6,V0)],[[.str,V0,V1,V0,V2,V0],[.str,V0,(.sl Y2 (.own 1)),V0,(.sl Y3 (.own 2)),V0]],[true,true,true],[],[],2,0,0⟩
def qe53_0 : Shape:=⟨[(1,(.const (.ref 0 0))),(2,(.const (.ref 1 0))),(4,.bool),(5,(.sl Y2 (.own 0)))],[[.str,V0,V1,V0,V2,V0],[.str,V0,(.sl Y2 (.own 1)),V0,(.sl Y3 (.own 2)),V0]],[true,true,true],[],[],2,0,0⟩
noncomputable def ql53 (X : Type) (n : Nat) : LoopI X:=mkLi 8 0 0 0 qh53 [(0,qe53_0)] [] n fun m ks => F.z7.L4 n (xe qe53_0 ks 0) m
noncomputable def cx65 (X : Type) (n : Nat) : Cx X:=mkCx tab.get [(65,Tryz.f65)] [o118 n,o119 n,o120 n] [(65,4,[ql53 X n])] [] [] []
theorem qo53 (X : Type) (n : Nat) : LO (cx65 X n) 65 Tryz.f65 0 (ql53 X n):=lok
theorem zwj (X : Type) (n : Nat) : CxOK Tryz.prog SW (cx65 X n):=mx (T1 (J Tryz.func65 (by decide))) (J (zb (ok118 n)) (J (zb (ok119 n)) (T1 (zb (ok120 n))))) (T1 (okc (T1 (T1 (qo53 X n))) trivial)) trivial
abbrev P65 : List SV:=[V3]
abbrev R65 : RV:=.many [V3,V0]
theorem ok65 (n : Nat) : FO 65 P65 R65 (F.z7 n):=zf WOf.st (zwj _ n) (d:=8) fun _ => by kernel_rfl
noncomputable def o65 (n : Nat):=oc 65 P65 R65 (F.z7 n)
def qh54 : Shape:=⟨[(0,V4),(5,(.sl Y6 (.own 0))),(6,V0)],[],[true],[],[],0,0,0⟩
def qe54_0 : Shape:=⟨[(5,(.sl Y6 (.own 0)))],[],[true],[],[],0,0,0⟩
def qe54_r : Shape:=⟨[(2,(.sl Y6 (.own 0))),(3,V0),(4,V0)],[],[true],[],[],0,0,0⟩
noncomputable def ql54 (X : Type) (n : Nat) : LoopI X:=mkLi 8 0 0 0 qh54 [(0,qe54_0)] [qe54_r] n fun m ks => F.z8.L5 n (xe qe54_0 ks 0) (xr qe54_r ks) m
noncomputable def cx34 (X : Type) (n : Nat) : Cx X:=mkCx tab.get [(34,Tryz.f34)] [o65 n] [(34,5,[ql54 X n])] [] [] []
theorem qo54 (X : Type) (n : Nat) : LO (cx34 X n) 34 Tryz.f34 0 (ql54 X n):=lok
theorem zwk (X : Type) (n : Nat) : CxOK Tryz.prog SW (cx34 X n):=mx (T1 (J Tryz.func34 (by decide))) (T1 (zb (ok65 n))) (T1 (okc (T1 (T1 (qo54 X n))) trivial)) trivial
abbrev P34 : List SV:=[V4]
abbrev R34 : RV:=.many [V4,V0,V0]
theorem ok34 (n : Nat) : FO 34 P34 R34 (F.z8 n):=zf WOf.st (zwk _ n) (d:=8) fun _ => by kernel_rfl
noncomputable def o34 (n : Nat):=oc 34 P34 R34 (F.z8 n)
def qh55 : Shape:=⟨[(0,V10),(3,(.sl .u8 (.own 0)))],[],[true],[],[],0,0,0⟩
def qe55_0 : Shape:=⟨[(0,V10),(3,(.sl .u8 (.own 0)))],[],[true],[],[],0,0,0⟩
noncomputable def ql55 (X : Type) (n : Nat) : LoopI X:=mkLi 8 0 0 0 qh55 [(0,qe55_0)] [] n fun m ks => F.zp.L2 n (xe qe55_0 ks 0) m
noncomputable def cx36 (X : Type) (n : Nat) : Cx X:=mkCx tab.get [(36,Tryz.f36)] [] [(36,2,[ql55 X n])] [] [] []
theorem qo55 (X : Type) (n : Nat) : LO (cx36 X n) 36 Tryz.f36 0 (ql55 X n):=lok
theorem zwl (X : Type) (n : Nat) : CxOK Tryz.prog SW (cx36 X n):=mx (T1 (J Tryz.func36 (by decide))) trivial (T1 (okc (T1 (T1 (qo55 X n))) trivial)) trivial
abbrev P36 : List SV:=[V10]
abbrev R36 : RV:=.one (.sl .u8 .fresh)
theorem ok36 (n : Nat) : FO 36 P36 R36 (F.zp n):=zf WOf.st (zwl _ n) (d:=8) fun _ => by kernel_rfl
noncomputable def o36 (n : Nat):=oc 36 P36 R36 (F.zp n)
noncomputable def cx183 (X : Type) (n : Nat) : Cx X:=mkCx tab.get [(183,Tryz.f183)] [] [] [] [] []
theorem ztb (X : Type) (n : Nat) : CxOK Tryz.prog SW (cx183 X n):=mx (T1 (J Tryz.func183 (by decide))) trivial (T1 (okc trivial trivial)) trivial
abbrev P183 : List SV:=[V0]
abbrev R183 : RV:=.one V10
theorem ok183 (n : Nat) : FO 183 P183 R183 (F.zch n):=zf WOf.st (ztb _ n) (d:=8) fun _ => by kernel_rfl
noncomputable def o183 (n : Nat):=oc 183 P183 R183 (F.zch n)
noncomputable def cx122 (X : Type) (n : Nat) : Cx X:=mkCx tab.get [(122,Tryz.f122)] [o36 n,o183 n] [] [] [] []
theorem ztc (X : Type) (n : Nat) : CxOK Tryz.prog SW (cx122 X n):=mx (T1 (J Tryz.func122 (by decide))) (J (zb (ok36 n)) (T1 (zb (ok183 n)))) (T1 (okc trivial trivial)) trivial
abbrev P122 : List SV:=[V11]
abbrev R122 : RV:=.one (.sl .u8 .fresh)
theorem ok122 (n : Nat) : FO 122 P122 R122 (F.zbn n):=zf WOf.st (ztc _ n) (d:=8) fun _ => by kernel_rfl
noncomputable def o122 (n : Nat):=oc 122 P122 R122 (F.zbn n)
def qh56 : Shape:=⟨[(0,(.const (.ref 0 0))),(1,.str),(5,V0)],[[(.sl .str (.own 1))],[.str,V0,V1,V0,V2,V0]],[true,true],[],[],2,2,0⟩
def qe56_0 : Shape:=⟨[],[[(.sl .str (.own 1))],[.str,V0,V1,V0,V2,V0]],[true,true],[],[],2,2,0⟩
def qe56_r : Shape:=⟨[(4,V0)],[[(.sl .str (.own 1))],[.str,V0,V1,V0,V2,V0]],[true,true],[],[],2,2,0⟩
noncomputable def ql56 (X : Type) (n : Nat) : LoopI X:=mkLi 5 2 2 0 qh56 [(0,qe56_0)] [qe56_r] n fun m ks => F.za.L2_ref15_Dict_Find n (xe qe56_0 ks 0) (xr qe56_r ks) m
def qh57 : Shape:=⟨[(0,(.const (.ref 0 0))),(3,(.const (.ref 1 0))),(5,(.sl .u8 (.own 2))),(7,V0)],[[(.sl .str (.own 1))],[.str,V0,V1,V0,V2,V0]],[true,true,true],[],[],2,2,0⟩
def qe57_0 : Shape:=⟨[(0,(.const (.ref 0 0))),(3,(.const (.ref 1 0))),(5,(.sl .u8 (.own 2)))],[[(.sl .str (.own 1))],[.str,V0,V1,V0,V2,V0]],[true,true,true],[],[],2,2,0⟩
noncomputable def ql57 (X : Type) (n : Nat) : LoopI X:=mkLi 7 1 2 0 qh57 [(0,qe57_0)] [] n fun m ks => F.za.L5_ref16_Put n (xe qe57_0 ks 0) m
def qh58 : Shape:=⟨[(0,(.const (.ref 0 0))),(1,.str),(5,V0)],[[(.sl .str (.own 1))],[.str,V0,V1,V0,V2,V0]],[true,true,true],[],[],2,3,0⟩
def qe58_0 : Shape:=⟨[],[[(.sl .str (.own 1))],[.str,V0,V1,V0,V2,V0]],[true,true,true],[],[],2,3,0⟩
def qe58_r : Shape:=⟨[(4,V0)],[[(.sl .str (.own 1))],[.str,V0,V1,V0,V2,V0]],[true,true,true],[],[],2,3,0⟩
noncomputable def ql58 (X : Type) (n : Nat) : LoopI X:=mkLi 5 2 3 0 qh58 [(0,qe58_0)] [qe58_r] n fun m ks => F.za.L2_ref15_Dict_Find_1 n (xe qe58_0 ks 0) (xr qe58_r ks) m
def qh59 : Shape:=⟨[(0,(.const (.ref 0 0))),(1,.str),(5,V0)],[[(.sl .str (.own 1))],[.str,V0,V1,V0,V2,V0]],[true,true,true,true],[],[],2,4,0⟩
def qe59_0 : Shape:=⟨[],[[(.sl .str (.own 1))],[.str,V0,V1,V0,V2,V0]],[true,true,true,true],[],[],2,4,0⟩
def qe59_r : Shape:=⟨[(4,V0)],[[(.sl .str (.own 1))],[.str,V0,V1,V0,V2,V0]],[true,true,true,true],[],[],2,4,0⟩
noncomputable def ql59 (X : Type) (n : Nat) : LoopI X:=mkLi 5 2 4 0 qh59 [(0,qe59_0)] [qe59_r] n fun m ks => F.za.L2_ref15_Dict_Find_2 n (xe qe59_0 ks 0) (xr qe59_r ks) m
def qh60 : Shape:=⟨[(1,.str),(7,(.sl .u8 (.own 4))),(8,V0)],[[(.sl .str (.own 1))],[.str,V0,V1,V0,V2,V0]],[true,true,true,true,true],[],[],2,4,0⟩
def qe60_0 : Shape:=⟨[(7,(.sl .u8 (.own 4)))],[[(.sl .str (.own 1))],[.str,V0,V1,V0,V2,V0]],[true,true,true,true,true],[],[],2,4,0⟩
noncomputable def ql60 (X : Type) (n : Nat) : LoopI X:=mkLi 6 2 4 0 qh60 [(0,qe60_0)] [] n fun m ks => F.za.L9_ref15_Dict_Put n (xe qe60_0 ks 0) m
def qh61 : Shape:=⟨[(0,(.const (.ref 0 0))),(3,(.const (.ref 1 0))),(5,(.sl .u8 (.own 2))),(8,V0),(9,(.sl .u8 (.own 3)))],[[(.sl .str (.own 1))],[.str,V0,V1,V0,V2,V0]],[true,true,true,true],[],[],2,2,0⟩
def qe61_n : Shape:=⟨[(0,(.const (.ref 0 0))),(3,(.const (.ref 1 0))),(5,(.sl .u8 (.own 2))),(8,V0)],[[(.sl .str (.own 1))],[.str,V0,V1,V0,V2,V0]],[true,true,true],[],[],2,2,0⟩
noncomputable def ql61 (X : Type) (n : Nat) : CutI X:=mkCi 7 1 2 0 qh61 [qe61_n] [] [] fun ks => F.za.C14_ref16_Put n (xn qe61_n ks)
def qh62 : Shape:=⟨[(1,.str),(7,(.sl .u8 (.own 3))),(8,V0)],[[(.sl .str (.own 1))],[.str,V0,V1,V0,V2,V0]],[true,true,true,true],[],[],2,3,0⟩
def qe62_0 : Shape:=⟨[(7,(.sl .u8 (.own 3)))],[[(.sl .str (.own 1))],[.str,V0,V1,V0,V2,V0]],[true,true,true,true],[],[],2,3,0⟩
noncomputable def ql62 (X : Type) (n : Nat) : LoopI X:=mkLi 6 2 3 0 qh62 [(0,qe62_0)] [] n fun m ks => F.za.L9_ref15_Dict_Put_1 n (xe qe62_0 ks 0) m
def qh63 : Shape:=⟨[(0,(.const (.ref 0 0))),(3,(.const (.ref 1 0))),(5,(.sl .u8 (.own 2))),(8,V0)],[[(.sl .str (.own 1))],[.str,V0,V1,V0,V2,V0]],[true,true,true],[],[],2,2,0⟩
def qe63_2 : Shape:=⟨[(3,(.const (.ref 1 0))),(5,(.sl .u8 (.own 2)))],[[(.sl .str (.own 1))],[.str,V0,V1,V0,V2,V0]],[true,true,true],[],[],2,2,0⟩
noncomputable def ql63 (X : Type) (n : Nat) : LoopI X:=mkLi 7 1 2 0 qh63 [(2,qe63_2)] [] n fun m ks => F.za.L11_ref16_Put n (xe qe63_2 ks 2) m
def qh64 : Shape:=⟨[(0,(.const (.ref 0 0))),(3,(.const (.ref 1 0))),(5,(.sl .u8 (.own 2)))],[[(.sl .str (.own 1))],[.str,V0,V1,V0,V2,V0]],[true,true,true],[],[],2,2,0⟩
def qe64_r : Shape:=⟨[(4,(.sl .u8 (.own 2)))],[[(.sl .str (.own 1))]],[true,true,true],[],[],1,2,0⟩
noncomputable def ql64 (X : Type) (n : Nat) : CutI X:=mkCi 7 1 2 0 qh64 [] [] [qe64_r] fun ks => F.za.C2_ref16_Put n (xr qe64_r ks)
def qh65 : Shape:=⟨[(1,.str),(7,(.sl .u8 (.own 2))),(8,V0)],[[(.sl .str (.own 1))],[.str,V0,V1,V0,V2,V0]],[true,true,true],[],[],2,2,0⟩
def qe65_0 : Shape:=⟨[(7,(.sl .u8 (.own 2)))],[[(.sl .str (.own 1))],[.str,V0,V1,V0,V2,V0]],[true,true,true],[],[],2,2,0⟩
noncomputable def ql65 (X : Type) (n : Nat) : LoopI X:=mkLi 6 2 2 0 qh65 [(0,qe65_0)] [] n fun m ks => F.za.L9_ref15_Dict_Put_2 n (xe qe65_0 ks 0) m
def qh66 : Shape:=⟨[(0,V4),(3,(.sl .u8 (.own 0))),(4,(.const (.ref 0 0))),(5,V0)],[[(.sl .str (.own 1))]],[true,true],[],[],1,0,0⟩
def qe66_0 : Shape:=⟨[(3,(.sl .u8 (.own 0)))],[[(.sl .str (.own 1))]],[true,true],[],[],1,0,0⟩
noncomputable def ql66 (X : Type) (n : Nat) : LoopI X:=mkLi 8 0 0 0 qh66 [(0,qe66_0)] [] n fun m ks => F.za.L4 n (xe qe66_0 ks 0) m
noncomputable def cx35 (X : Type) (n : Nat) : Cx X:=mkCx tab.get [(35,Tryz.f35),(66,Tryz.f66),(121,Tryz.f121),(182,Tryz.f182)] [o36 n,o122 n] [(35,4,[ql66 X n]),(66,5,[ql57 X n]),(66,11,[ql63 X n]),(121,9,[ql60 X n,ql62 X n,ql65 X n]),(182,2,[ql56 X n,ql58 X n,ql59 X n])] [] [] [] [(66,2,[ql64 X n]),(66,14,[ql61 X n])]
theorem qo61 (X : Type) (n : Nat) : CO (cx35 X n) 66 Tryz.f66 16 (ql61 X n):=fun _ _ => by kernel_rfl
theorem qo64 (X : Type) (n : Nat) : CO (cx35 X n) 66 Tryz.f66 1 (ql64 X n):=fun _ _ => by kernel_rfl
theorem qo56 (X : Type) (n : Nat) : LO (cx35 X n) 182 Tryz.f182 0 (ql56 X n):=lok
theorem qo57 (X : Type) (n : Nat) : LO (cx35 X n) 66 Tryz.f66 0 (ql57 X n):=lok
theorem qo58 (X : Type) (n : Nat) : LO (cx35 X n) 182 Tryz.f182 0 (ql58 X n):=lok
theorem qo59 (X : Type) (n : Nat) : LO (cx35 X n) 182 Tryz.f182 0 (ql59 X n):=lok
theorem qo60 (X : Type) (n : Nat) : LO (cx35 X n) 121 Tryz.f121 0 (ql60 X n):=lok
theorem qo62 (X : Type) (n : Nat) : LO (cx35 X n) 121 Tryz.f121 0 (ql62 X n):=lok
theorem qo63 (X : Type) (n : Nat) : LO (cx35 X n) 66 Tryz.f66 1 (ql63 X n):=lok
theorem qo65 (X : Type) (n : Nat) : LO (cx35 X n) 121 Tryz.f121 0 (ql65 X n):=lok
theorem qo66 (X : Type) (n : Nat) : LO (cx35 X n) 35 Tryz.f35 0 (ql66 X n):=lok
theorem zwm (X : Type) (n : Nat) : CxOK Tryz.prog SW (cx35 X n):=mx (J (J Tryz.func35 (by decide)) (J (J Tryz.func66 (by decide)) (J (J Tryz.func121 (by decide)) (T1 (J Tryz.func182 (by decide)))))) (J (zb (ok36 n)) (T1 (zb (ok122 n)))) (J (okc (T1 (T1 (qo66 X n))) trivial) (J (okk (J trivial (J (T1 (qo64 X n)) (J trivial (J trivial (J trivial (J trivial (J trivial (J trivial (J trivial (J trivial (J trivial (J trivial (J trivial (J trivial (J trivial (J trivial (J (T1 (qo61 X n)) (J trivial (J trivial (T1 trivial)))))))))))))))))))) (J (T1 (qo57 X n)) (T1 (T1 (qo63 X n)))) trivial) (J (okc (T1 (J (qo60 X n) (J (qo62 X n) (T1 (qo65 X n))))) trivial) (T1 (okc (T1 (J (qo56 X n) (J (qo58 X n) (T1 (qo59 X n))))) trivial))))) trivial
abbrev P35 : List SV:=[V4]
abbrev R35 : RV:=.one V7
theorem ok35 (n : Nat) : FO 35 P35 R35 (F.za n):=zf WOf.st (zwm _ n) (d:=8) fun _ => by kernel_rfl
noncomputable def o35 (n : Nat):=oc 35 P35 R35 (F.za n)
def qh67 : Shape:=⟨[(0,V14),(3,V0)],[],[],[],[],0,0,0⟩
def qe67_0 : Shape:=⟨[(0,V14)],[],[],[],[],0,0,0⟩
noncomputable def ql67 (X : Type) (n : Nat) : LoopI X:=mkLi 8 0 0 0 qh67 [(0,qe67_0)] [] n fun m ks => F.zag.L2 n (xe qe67_0 ks 0) m
noncomputable def cx184 (X : Type) (n : Nat) : Cx X:=mkCx tab.get [(184,Tryz.f184)] [] [(184,2,[ql67 X n])] [] [] []
theorem qo67 (X : Type) (n : Nat) : LO (cx184 X n) 184 Tryz.f184 0 (ql67 X n):=lok
theorem ztd (X : Type) (n : Nat) : CxOK Tryz.prog SW (cx184 X n):=mx (T1 (J Tryz.func184 (by decide))) trivial (T1 (okc (T1 (T1 (qo67 X n))) trivial)) trivial
abbrev P184 : List SV:=[V14]
abbrev R184 : RV:=.one V14
theorem ok184 (n : Nat) : FO 184 P184 R184 (F.zag n):=zf WOf.st (ztd _ n) (d:=8) fun _ => by kernel_rfl
noncomputable def o184 (n : Nat):=oc 184 P184 R184 (F.zag n)
noncomputable def cx123 (X : Type) (n : Nat) : Cx X:=mkCx tab.get [(123,Tryz.f123)] [o184 n] [] [] [] []
theorem zte (X : Type) (n : Nat) : CxOK Tryz.prog SW (cx123 X n):=mx (T1 (J Tryz.func123 (by decide))) (T1 (zb (ok184 n))) (T1 (okc trivial trivial)) trivial
abbrev P123 : List SV:=[V14,V8]
abbrev R123 : RV:=.one V14
theorem ok123 (n : Nat) : FO 123 P123 R123 (F.zca n):=zf WOf.st (zte _ n) (d:=8) fun _ => by kernel_rfl
noncomputable def o123 (n : Nat):=oc 123 P123 R123 (F.zca n)
def qh68 : Shape:=⟨[(0,V7),(3,V14),(4,V0)],[],[],[],[],0,0,0⟩
def qe68_0 : Shape:=⟨[(3,V14)],[],[],[],[],0,0,0⟩
noncomputable def ql68 (X : Type) (n : Nat) : LoopI X:=mkLi 8 0 0 0 qh68 [(0,qe68_0)] [] n fun m ks => F.zau.L3 n (xe qe68_0 ks 0) m
noncomputable def cx67 (X : Type) (n : Nat) : Cx X:=mkCx tab.get [(67,Tryz.f67)] [o123 n] [(67,3,[ql68 X n])] [] [] []
theorem qo68 (X : Type) (n : Nat) : LO (cx67 X n) 67 Tryz.f67 0 (ql68 X n):=lok
theorem zwn (X : Type) (n : Nat) : CxOK Tryz.prog SW (cx67 X n):=mx (T1 (J Tryz.func67 (by decide))) (T1 (zb (ok123 n))) (T1 (okc (T1 (T1 (qo68 X n))) trivial)) trivial
abbrev P67 : List SV:=[V7]
abbrev R67 : RV:=.one V14
theorem ok67 (n : Nat) : FO 67 P67 R67 (F.zau n):=zf WOf.st (zwn _ n) (d:=8) fun _ => by kernel_rfl
noncomputable def o67 (n : Nat):=oc 67 P67 R67 (F.zau n)
noncomputable def cx37 (X : Type) (n : Nat) : Cx X:=mkCx tab.get [(37,Tryz.f37)] [o67 n] [] [] [] []
theorem zwo (X : Type) (n : Nat) : CxOK Tryz.prog SW (cx37 X n):=mx (T1 (J Tryz.func37 (by decide))) (T1 (zb (ok67 n))) (T1 (okc trivial trivial)) trivial
abbrev P37 : List SV:=[V7]
abbrev R37 : RV:=.one V7
theorem ok37 (n : Nat) : FO 37 P37 R37 (F.zci n):=zf WOf.st (zwo _ n) (d:=8) fun _ => by kernel_rfl
noncomputable def o37 (n : Nat):=oc 37 P37 R37 (F.zci n)
noncomputable def cx18 (X : Type) (n : Nat) : Cx X:=mkCx tab.get [(18,Tryz.f18)] [o34 n,o35 n,o36 n,o37 n] [] [] [] []
theorem zwp (X : Type) (n : Nat) : CxOK Tryz.prog SW (cx18 X n):=mx (T1 (J Tryz.func18 (by decide))) (J (zb (ok34 n)) (J (zb (ok35 n)) (J (zb (ok36 n)) (T1 (zb (ok37 n)))))) (T1 (okc trivial trivial)) trivial
abbrev P18 : List SV:=[V4]
abbrev R18 : RV:=.many [V7,V0,V0]
theorem ok18 (n : Nat) : FO 18 P18 R18 (F.zbd n):=zf WOf.st (zwp _ n) (d:=8) fun _ => by kernel_rfl
noncomputable def o18 (n : Nat):=oc 18 P18 R18 (F.zbd n)
noncomputable def cx38 (X : Type) (n : Nat) : Cx X:=mkCx tab.get [(38,Tryz.f38)] [] [] [] [] []
theorem zwq (X : Type) (n : Nat) : CxOK Tryz.prog SW (cx38 X n):=mx (T1 (J Tryz.func38 (by decide))) trivial (T1 (okc trivial trivial)) trivial
abbrev P38 : List SV:=[V0]
abbrev R38 : RV:=.one .bool
theorem ok38 (n : Nat) : FO 38 P38 R38 (F.zcl n):=zf WOf.st (zwq _ n) (d:=8) fun _ => by kernel_rfl
noncomputable def o38 (n : Nat):=oc 38 P38 R38 (F.zcl n)
noncomputable def cx185 (X : Type) (n : Nat) : Cx X:=mkCx tab.get [(185,Tryz.f185)] [o177 n,o178 n] [] [] [(185,3,[(1,11),(3,11),(6,11)])] []
theorem ztf (X : Type) (n : Nat) : CxOK Tryz.prog SW (cx185 X n):=mx (T1 (J Tryz.func185 (by decide))) (J (zb (ok177 n)) (T1 (zb (ok178 n)))) (T1 (okc trivial trivial)) trivial
abbrev P185 : List SV:=[V11]
abbrev R185 : RV:=.one V0
theorem ok185 (n : Nat) : FO 185 P185 R185 (F.zbl n):=zf WOf.st (ztf _ n) (d:=8) fun _ => by kernel_rfl
noncomputable def o185 (n : Nat):=oc 185 P185 R185 (F.zbl n)
def qh69 : Shape:=⟨[(1,(.const (.ref 0 0))),(3,.bool),(4,V0)],[[.str,V0,V1,V0,V2,V0]],[],[],[],1,0,0⟩
def qe69_0 : Shape:=⟨[(1,(.const (.ref 0 0))),(3,.bool)],[[.str,V0,V1,V0,V2,V0]],[],[],[],1,0,0⟩
noncomputable def ql69 (X : Type) (n : Nat) : LoopI X:=mkLi 8 0 0 0 qh69 [(0,qe69_0)] [] n fun m ks => F.z1.L3 n (xe qe69_0 ks 0) m
noncomputable def cx124 (X : Type) (n : Nat) : Cx X:=mkCx tab.get [(124,Tryz.f124)] [o119 n,o185 n] [(124,3,[ql69 X n])] [] [] []
theorem qo69 (X : Type) (n : Nat) : LO (cx124 X n) 124 Tryz.f124 0 (ql69 X n):=lok
theorem ztg (X : Type) (n : Nat) : CxOK Tryz.prog SW (cx124 X n):=mx (T1 (J Tryz.func124 (by decide))) (J (zb (ok119 n)) (T1 (zb (ok185 n)))) (T1 (okc (T1 (T1 (qo69 X n))) trivial)) trivial
abbrev P124 : List SV:=[V3]
abbrev R124 : RV:=.one V0
theorem ok124 (n : Nat) : FO 124 P124 R124 (F.z1 n):=zf WOf.st (ztg _ n) (d:=8) fun _ => by kernel_rfl
noncomputable def o124 (n : Nat):=oc 124 P124 R124 (F.z1 n)
def qh70 : Shape:=⟨[(0,V4),(4,V0)],[],[],[],[],0,0,0⟩
def qe70_0 : Shape:=⟨[],[],[],[],[],0,0,0⟩
def qe70_r : Shape:=⟨[(2,V0),(3,V0)],[],[],[],[],0,0,0⟩
noncomputable def ql70 (X : Type) (n : Nat) : LoopI X:=mkLi 8 0 0 0 qh70 [(0,qe70_0)] [qe70_r] n fun m ks => F.zah.L4 n (fun _ => xe qe70_0 ks 0) (xr qe70_r ks) m
noncomputable def cx68 (X : Type) (n : Nat) : Cx X:=mkCx tab.get [(68,Tryz.f68)] [o124 n] [(68,4,[ql70 X n])] [] [] []
theorem qo70 (X : Type) (n : Nat) : LO (cx68 X n) 68 Tryz.f68 0 (ql70 X n):=lok
theorem zwr (X : Type) (n : Nat) : CxOK Tryz.prog SW (cx68 X n):=mx (T1 (J Tryz.func68 (by decide))) (T1 (zb (ok124 n))) (T1 (okc (T1 (T1 (qo70 X n))) trivial)) trivial
abbrev P68 : List SV:=[V4]
abbrev R68 : RV:=.many [V0,V0]
theorem ok68 (n : Nat) : FO 68 P68 R68 (F.zah n):=zf WOf.st (zwr _ n) (d:=8) fun _ => by kernel_rfl
noncomputable def o68 (n : Nat):=oc 68 P68 R68 (F.zah n)
noncomputable def cx69 (X : Type) (n : Nat) : Cx X:=mkCx tab.get [(69,Tryz.f69)] [] [] [] [] []
theorem zws (X : Type) (n : Nat) : CxOK Tryz.prog SW (cx69 X n):=mx (T1 (J Tryz.func69 (by decide))) trivial (T1 (okc trivial trivial)) trivial
abbrev P69 : List SV:=[V3,V0]
abbrev R69 : RV:=.one .bool
theorem ok69 (n : Nat) : FO 69 P69 R69 (F.zbq n):=zf WOf.st (zws _ n) (d:=8) fun _ => by kernel_rfl
noncomputable def o69 (n : Nat):=oc 69 P69 R69 (F.zbq n)
def qh71 : Shape:=⟨[(0,V4),(1,V0),(8,V0)],[],[],[],[],0,0,0⟩
def qe71_0 : Shape:=⟨[],[],[],[],[],0,0,0⟩
def qe71_r : Shape:=⟨[(4,V0),(5,V0)],[],[],[],[],0,0,0⟩
noncomputable def ql71 (X : Type) (n : Nat) : LoopI X:=mkLi 8 0 0 0 qh71 [(0,qe71_0)] [qe71_r] n fun m ks => F.zaw.L7 n (fun _ => xe qe71_0 ks 0) (xr qe71_r ks) m
noncomputable def cx39 (X : Type) (n : Nat) : Cx X:=mkCx tab.get [(39,Tryz.f39)] [o68 n,o69 n] [(39,7,[ql71 X n])] [] [] []
theorem qo71 (X : Type) (n : Nat) : LO (cx39 X n) 39 Tryz.f39 0 (ql71 X n):=lok
theorem zwt (X : Type) (n : Nat) : CxOK Tryz.prog SW (cx39 X n):=mx (T1 (J Tryz.func39 (by decide))) (J (zb (ok68 n)) (T1 (zb (ok69 n)))) (T1 (okc (T1 (T1 (qo71 X n))) trivial)) trivial
abbrev P39 : List SV:=[V4,V0]
abbrev R39 : RV:=.many [V0,V0]
theorem ok39 (n : Nat) : FO 39 P39 R39 (F.zaw n):=zf WOf.st (zwt _ n) (d:=8) fun _ => by kernel_rfl
noncomputable def o39 (n : Nat):=oc 39 P39 R39 (F.zaw n)
def qh72 : Shape:=⟨[(1,(.const (.ref 0 0))),(3,.str),(4,V0)],[[.bool,V10,V0]],[],[],[],1,0,0⟩
def qe72_0 : Shape:=⟨[(1,(.const (.ref 0 0))),(3,.str)],[[.bool,V10,V0]],[],[],[],1,0,0⟩
noncomputable def ql72 (X : Type) (n : Nat) : LoopI X:=mkLi 8 0 0 0 qh72 [(0,qe72_0)] [] n fun m ks => F.zm.L3 n (xe qe72_0 ks 0) m
def qh73 : Shape:=⟨[(1,(.const (.ref 0 0))),(3,.str)],[[.bool,V10,V0]],[],[],[],1,0,0⟩
def qe73_2 : Shape:=⟨[(1,(.const (.ref 0 0))),(3,.str)],[[.bool,V10,V0]],[],[],[],1,0,0⟩
noncomputable def ql73 (X : Type) (n : Nat) : LoopI X:=mkLi 8 0 0 0 qh73 [(2,qe73_2)] [] n fun m ks => F.zm.L7 n (xe qe73_2 ks 2) m
noncomputable def cx125 (X : Type) (n : Nat) : Cx X:=mkCx tab.get [(125,Tryz.f125)] [o178 n] [(125,3,[ql72 X n]),(125,7,[ql73 X n])] [] [] []
theorem qo72 (X : Type) (n : Nat) : LO (cx125 X n) 125 Tryz.f125 0 (ql72 X n):=lok
theorem qo73 (X : Type) (n : Nat) : LO (cx125 X n) 125 Tryz.f125 1 (ql73 X n):=lok
theorem zth (X : Type) (n : Nat) : CxOK Tryz.prog SW (cx125 X n):=mx (T1 (J Tryz.func125 (by decide))) (T1 (zb (ok178 n))) (T1 (okc (J (T1 (qo72 X n)) (T1 (T1 (qo73 X n)))) trivial)) trivial
abbrev P125 : List SV:=[V11]
abbrev R125 : RV:=.one .str
theorem ok125 (n : Nat) : FO 125 P125 R125 (F.zm n):=zf WOf.st (zth _ n) (d:=8) fun _ => by kernel_rfl
noncomputable def o125 (n : Nat):=oc 125 P125 R125 (F.zm n)
noncomputable def cx126 (X : Type) (n : Nat) : Cx X:=mkCx tab.get [(126,Tryz.f126)] [] [] [] [] []
theorem zti (X : Type) (n : Nat) : CxOK Tryz.prog SW (cx126 X n):=mx (T1 (J Tryz.func126 (by decide))) trivial (T1 (okc trivial trivial)) trivial
abbrev P126 : List SV:=[V0]
abbrev R126 : RV:=.one .str
theorem ok126 (n : Nat) : FO 126 P126 R126 (F.zcb n):=zf WOf.st (zti _ n) (d:=8) fun _ => by kernel_rfl
noncomputable def o126 (n : Nat):=oc 126 P126 R126 (F.zcb n)
abbrev P186 : List SV:=[V10]
abbrev R186 : RV:=.one .str
noncomputable def cx186 (X : Type) (n m : Nat) : Cx X:=mkCx tab.get [(186,Tryz.f186)] [(186,orcOf P186 R186 (appL P186 (F.zae.go n m)))] [] [] [] []
theorem ztj (X : Type) (n m : Nat) (ih : FO 186 P186 R186 (F.zae.go n m)) : CxOK Tryz.prog SW (cx186 X n m):=mx (T1 (J Tryz.func186 (by decide))) (T1 (zb (ih))) (T1 (okc trivial trivial)) trivial
theorem zks (n : Nat) : ∀ m : Nat,FO 186 P186 R186 (F.zae.go n m)
  | 0 => fun x y hy => by cases hy
  | m + 1 => zf WOf.st (ztj _ n m (zks n m)) (d:=8) fun _ => by kernel_rfl
theorem ok186 (n : Nat) : FO 186 P186 R186 (F.zae n):=zks n n
noncomputable def o186 (n : Nat):=oc 186 P186 R186 (F.zae n)
def qh74 : Shape:=⟨[(3,.str)],[],[],[],[],0,0,0⟩
def qe74_0 : Shape:=⟨[(3,.str)],[],[],[],[],0,0,0⟩
noncomputable def ql74 (X : Type) (n : Nat) : LoopI X:=mkLi 8 0 0 0 qh74 [(0,qe74_0)] [] n fun m ks => F.zf.L4 n (xe qe74_0 ks 0) m
def qh75 : Shape:=⟨[(3,.str)],[],[],[],[],0,0,0⟩
def qe75_2 : Shape:=⟨[(3,.str)],[],[],[],[],0,0,0⟩
noncomputable def ql75 (X : Type) (n : Nat) : LoopI X:=mkLi 8 0 0 0 qh75 [(2,qe75_2)] [] n fun m ks => F.zf.L6 n (xe qe75_2 ks 2) m
noncomputable def cx127 (X : Type) (n : Nat) : Cx X:=mkCx tab.get [(127,Tryz.f127)] [o186 n] [(127,4,[ql74 X n]),(127,6,[ql75 X n])] [] [] []
theorem qo74 (X : Type) (n : Nat) : LO (cx127 X n) 127 Tryz.f127 0 (ql74 X n):=lok
theorem qo75 (X : Type) (n : Nat) : LO (cx127 X n) 127 Tryz.f127 1 (ql75 X n):=lok
theorem ztk (X : Type) (n : Nat) : CxOK Tryz.prog SW (cx127 X n):=mx (T1 (J Tryz.func127 (by decide))) (T1 (zb (ok186 n))) (T1 (okc (J (T1 (qo74 X n)) (T1 (T1 (qo75 X n)))) trivial)) trivial
abbrev P127 : List SV:=[V0]
abbrev R127 : RV:=.one .str
theorem ok127 (n : Nat) : FO 127 P127 R127 (F.zf n):=zf WOf.st (ztk _ n) (d:=8) fun _ => by kernel_rfl
noncomputable def o127 (n : Nat):=oc 127 P127 R127 (F.zf n)
noncomputable def cx70 (X : Type) (n : Nat) : Cx X:=mkCx tab.get [(70,Tryz.f70)] [o125 n,o126 n,o127 n] [] [] [] []
theorem zwu (X : Type) (n : Nat) : CxOK Tryz.prog SW (cx70 X n):=mx (T1 (J Tryz.func70 (by decide))) (J (zb (ok125 n)) (J (zb (ok126 n)) (T1 (zb (ok127 n))))) (T1 (okc trivial trivial)) trivial
abbrev P70 : List SV:=[V3]
abbrev R70 : RV:=.one .str
theorem ok70 (n : Nat) : FO 70 P70 R70 (F.zbr n):=zf WOf.st (zwu _ n) (d:=8) fun _ => by kernel_rfl
noncomputable def o70 (n : Nat):=oc 70 P70 R70 (F.zbr n)
noncomputable def cx128 (X : Type) (n : Nat) : Cx X:=mkCx tab.get [(128,Tryz.f128)] [] [] [] [] []
theorem ztl (X : Type) (n : Nat) : CxOK Tryz.prog SW (cx128 X n):=mx (T1 (J Tryz.func128 (by decide))) trivial (T1 (okc trivial trivial)) trivial
abbrev P128 : List SV:=[]
abbrev R128 : RV:=.one V6
theorem ok128 (n : Nat) : FO 128 P128 R128 (F.zce n):=zf WOf.st (ztl _ n) (d:=8) fun _ => by kernel_rfl
noncomputable def o128 (n : Nat):=oc 128 P128 R128 (F.zce n)
noncomputable def cx187 (X : Type) (n : Nat) : Cx X:=mkCx tab.get [(187,Tryz.f187)] [] [] [] [] []
theorem ztm (X : Type) (n : Nat) : CxOK Tryz.prog SW (cx187 X n):=mx (T1 (J Tryz.func187 (by decide))) trivial (T1 (okc trivial trivial)) trivial
abbrev P187 : List SV:=[V12]
abbrev R187 : RV:=.one .str
theorem ok187 (n : Nat) : FO 187 P187 R187 (F.zb5 n):=zf WOf.st (ztm _ n) (d:=8) fun _ => by kernel_rfl
noncomputable def o187 (n : Nat):=oc 187 P187 R187 (F.zb5 n)
def qh76 : Shape:=⟨[(0,V2),(3,.str),(4,V0)],[],[],[],[],0,0,0⟩
def qe76_0 : Shape:=⟨[(3,.str)],[],[],[],[],0,0,0⟩
noncomputable def ql76 (X : Type) (n : Nat) : LoopI X:=mkLi 8 0 0 0 qh76 [(0,qe76_0)] [] n fun m ks => F.z6.L3 n (xe qe76_0 ks 0) m
noncomputable def cx129 (X : Type) (n : Nat) : Cx X:=mkCx tab.get [(129,Tryz.f129)] [o187 n] [(129,3,[ql76 X n])] [] [] []
theorem qo76 (X : Type) (n : Nat) : LO (cx129 X n) 129 Tryz.f129 0 (ql76 X n):=lok
theorem ztn (X : Type) (n : Nat) : CxOK Tryz.prog SW (cx129 X n):=mx (T1 (J Tryz.func129 (by decide))) (T1 (zb (ok187 n))) (T1 (okc (T1 (T1 (qo76 X n))) trivial)) trivial
abbrev P129 : List SV:=[V2]
abbrev R129 : RV:=.one .str
theorem ok129 (n : Nat) : FO 129 P129 R129 (F.z6 n):=zf WOf.st (ztn _ n) (d:=8) fun _ => by kernel_rfl
noncomputable def o129 (n : Nat):=oc 129 P129 R129 (F.z6 n)
noncomputable def cx130 (X : Type) (n : Nat) : Cx X:=mkCx tab.get [(130,Tryz.f130)] [o186 n] [] [] [] []
theorem zto (X : Type) (n : Nat) : CxOK Tryz.prog SW (cx130 X n):=mx (T1 (J Tryz.func130 (by decide))) (T1 (zb (ok186 n))) (T1 (okc trivial trivial)) trivial
abbrev P130 : List SV:=[V0]
abbrev R130 : RV:=.one .str
theorem ok130 (n : Nat) : FO 130 P130 R130 (F.za5 n):=zf WOf.st (zto _ n) (d:=8) fun _ => by kernel_rfl
noncomputable def o130 (n : Nat):=oc 130 P130 R130 (F.za5 n)
def qh77 : Shape:=⟨[(1,(.const (.ref 0 0))),(3,.str),(4,V0)],[[.str,V0,V1,V0,V2,V0]],[],[],[],1,0,0⟩
def qe77_0 : Shape:=⟨[(1,(.const (.ref 0 0))),(3,.str)],[[.str,V0,V1,V0,V2,V0]],[],[],[],1,0,0⟩
noncomputable def ql77 (X : Type) (n : Nat) : LoopI X:=mkLi 8 0 0 0 qh77 [(0,qe77_0)] [] n fun m ks => F.zak.L3 n (xe qe77_0 ks 0) m
noncomputable def cx71 (X : Type) (n : Nat) : Cx X:=mkCx tab.get [(71,Tryz.f71)] [o125 n,o127 n,o128 n,o129 n,o130 n] [(71,3,[ql77 X n])] [] [] []
theorem qo77 (X : Type) (n : Nat) : LO (cx71 X n) 71 Tryz.f71 0 (ql77 X n):=lok
theorem zwv (X : Type) (n : Nat) : CxOK Tryz.prog SW (cx71 X n):=mx (T1 (J Tryz.func71 (by decide))) (J (zb (ok125 n)) (J (zb (ok127 n)) (J (zb (ok128 n)) (J (zb (ok129 n)) (T1 (zb (ok130 n))))))) (T1 (okc (T1 (T1 (qo77 X n))) trivial)) trivial
abbrev P71 : List SV:=[V3]
abbrev R71 : RV:=.one .str
theorem ok71 (n : Nat) : FO 71 P71 R71 (F.zak n):=zf WOf.st (zwv _ n) (d:=8) fun _ => by kernel_rfl
noncomputable def o71 (n : Nat):=oc 71 P71 R71 (F.zak n)
noncomputable def cx72 (X : Type) (n : Nat) : Cx X:=mkCx tab.get [(72,Tryz.f72)] [o125 n,o130 n] [] [] [] []
theorem zww (X : Type) (n : Nat) : CxOK Tryz.prog SW (cx72 X n):=mx (T1 (J Tryz.func72 (by decide))) (J (zb (ok125 n)) (T1 (zb (ok130 n)))) (T1 (okc trivial trivial)) trivial
abbrev P72 : List SV:=[V3]
abbrev R72 : RV:=.one .str
theorem ok72 (n : Nat) : FO 72 P72 R72 (F.zbs n):=zf WOf.st (zww _ n) (d:=8) fun _ => by kernel_rfl
noncomputable def o72 (n : Nat):=oc 72 P72 R72 (F.zbs n)
noncomputable def cx40 (X : Type) (n : Nat) : Cx X:=mkCx tab.get [(40,Tryz.f40)] [o70 n,o71 n,o72 n] [] [] [] []
theorem zwx (X : Type) (n : Nat) : CxOK Tryz.prog SW (cx40 X n):=mx (T1 (J Tryz.func40 (by decide))) (J (zb (ok70 n)) (J (zb (ok71 n)) (T1 (zb (ok72 n))))) (T1 (okc trivial trivial)) trivial
abbrev P40 : List SV:=[V3,V0]
abbrev R40 : RV:=.one .str
theorem ok40 (n : Nat) : FO 40 P40 R40 (F.zbt n):=zf WOf.st (zwx _ n) (d:=8) fun _ => by kernel_rfl
noncomputable def o40 (n : Nat):=oc 40 P40 R40 (F.zbt n)
def qh78 : Shape:=⟨[(1,V0),(7,V4),(10,(.sl .str (.own 0))),(11,V0)],[],[true],[],[],0,0,0⟩
def qe78_0 : Shape:=⟨[(10,(.sl .str (.own 0)))],[],[true],[],[],0,0,0⟩
noncomputable def ql78 (X : Type) (n : Nat) : LoopI X:=mkLi 8 0 0 0 qh78 [(0,qe78_0)] [] n fun m ks => F.zab.L10 n (xe qe78_0 ks 0) m
noncomputable def cx19 (X : Type) (n : Nat) : Cx X:=mkCx tab.get [(19,Tryz.f19)] [o34 n,o38 n,o39 n,o40 n] [(19,10,[ql78 X n])] [] [] []
theorem qo78 (X : Type) (n : Nat) : LO (cx19 X n) 19 Tryz.f19 0 (ql78 X n):=lok
theorem zwy (X : Type) (n : Nat) : CxOK Tryz.prog SW (cx19 X n):=mx (T1 (J Tryz.func19 (by decide))) (J (zb (ok34 n)) (J (zb (ok38 n)) (J (zb (ok39 n)) (T1 (zb (ok40 n)))))) (T1 (okc (T1 (T1 (qo78 X n))) trivial)) trivial
abbrev P19 : List SV:=[V4,V0]
abbrev R19 : RV:=.many [V6,V0,V0]
theorem ok19 (n : Nat) : FO 19 P19 R19 (F.zab n):=zf WOf.st (zwy _ n) (d:=8) fun _ => by kernel_rfl
noncomputable def o19 (n : Nat):=oc 19 P19 R19 (F.zab n)
def qh79 : Shape:=⟨[(0,V6),(1,V0),(7,V0),(8,V0)],[[(.row .str)]],[],[],[],1,0,0⟩
def qe79_2 : Shape:=⟨[(0,V6),(1,V0),(7,V0)],[[(.row .str)]],[],[],[],1,0,0⟩
def qe79_r : Shape:=⟨[(4,(.ms 1 .str)),(5,V0),(6,V0)],[[(.row .str)],[(.row .str)]],[],[],[],2,0,0⟩
noncomputable def ql79 (X : Type) (n : Nat) : LoopI X:=mkLi 8 0 0 0 qh79 [(2,qe79_2)] [qe79_r] n fun m ks => F.zd.L7 n (xe qe79_2 ks 2) (xr qe79_r ks) m
def qh80 : Shape:=⟨[(0,V6),(1,V0),(7,V0)],[[(.row .str)]],[],[],[],1,0,0⟩
def qe80_0 : Shape:=⟨[(0,V6),(1,V0)],[[(.row .str)]],[],[],[],1,0,0⟩
def qe80_r : Shape:=⟨[(4,(.ms 1 .str)),(5,V0),(6,V0)],[[(.row .str)],[(.row .str)]],[],[],[],2,0,0⟩
noncomputable def ql80 (X : Type) (n : Nat) : LoopI X:=mkLi 8 0 0 0 qh80 [(0,qe80_0)] [qe80_r] n fun m ks => F.zd.L4 n (xe qe80_0 ks 0) (xr qe80_r ks) m
def qh81 : Shape:=⟨[(0,V6),(1,V0),(9,(.ms 1 .str)),(10,V0)],[[(.row .str)],[(.row .str)]],[],[],[],2,0,0⟩
def qe81_4 : Shape:=⟨[(9,(.ms 1 .str))],[[(.row .str)],[(.row .str)]],[],[],[],2,0,0⟩
noncomputable def ql81 (X : Type) (n : Nat) : LoopI X:=mkLi 8 0 0 0 qh81 [(4,qe81_4)] [] n fun m ks => F.zd.L15 n (xe qe81_4 ks 4) m
noncomputable def cx20 (X : Type) (n : Nat) : Cx X:=mkCx tab.get [(20,Tryz.f20)] [o17 n] [(20,4,[ql80 X n]),(20,7,[ql79 X n]),(20,15,[ql81 X n])] [] [] [] [] [(29,.str)]
theorem qo79 (X : Type) (n : Nat) : LO (cx20 X n) 20 Tryz.f20 1 (ql79 X n):=lok
theorem qo80 (X : Type) (n : Nat) : LO (cx20 X n) 20 Tryz.f20 0 (ql80 X n):=lok
theorem qo81 (X : Type) (n : Nat) : LO (cx20 X n) 20 Tryz.f20 2 (ql81 X n):=lok
theorem zwz (X : Type) (n : Nat) : CxOK Tryz.prog SW (cx20 X n):=mx (T1 (J Tryz.func20 (by decide))) (T1 (zb (ok17 n))) (T1 (okc (J (T1 (qo80 X n)) (J (T1 (qo79 X n)) (T1 (T1 (qo81 X n))))) trivial)) trivial
abbrev P20 : List SV:=[V6,V0]
abbrev R20 : RV:=.many [V6,V0,V0]
theorem ok20 (n : Nat) : FO 20 P20 R20 (F.zd n):=zf WOf.st (zwz _ n) (d:=8) fun _ => by kernel_rfl
noncomputable def o20 (n : Nat):=oc 20 P20 R20 (F.zd n)
noncomputable def cx7 (X : Type) (n : Nat) : Cx X:=mkCx tab.get [(7,Tryz.f7)] [o17 n,o18 n,o19 n,o20 n] [] [] [] []
theorem zxz (X : Type) (n : Nat) : CxOK Tryz.prog SW (cx7 X n):=mx (T1 (J Tryz.func7 (by decide))) (J (zb (ok17 n)) (J (zb (ok18 n)) (J (zb (ok19 n)) (T1 (zb (ok20 n)))))) (T1 (okc trivial trivial)) trivial
abbrev P7 : List SV:=[V4,V0,V0]
abbrev R7 : RV:=.many [V6,V0,V0]
theorem ok7 (n : Nat) : FO 7 P7 R7 (F.zbx n):=zf WOf.st (zxz _ n) (d:=8) fun _ => by kernel_rfl
noncomputable def o7 (n : Nat):=oc 7 P7 R7 (F.zbx n)
def qh82 : Shape:=⟨[(13,V0),(39,V6),(40,V0),(41,V0)],[],[],[],[],0,0,0⟩
def qe82_0 : Shape:=⟨[(13,V0)],[],[],[],[],0,0,0⟩
noncomputable def ql82 (X : Type) (n : Nat) : LoopI X:=mkLi 8 0 0 0 qh82 [(0,qe82_0)] [] n fun m ks => F.zai.L9 n (xe qe82_0 ks 0) m
noncomputable def cx8 (X : Type) (n : Nat) : Cx X:=mkCx tab.get [(8,Tryz.f8)] [o15 n,o16 n] [(8,9,[ql82 X n])] [] [] []
theorem qo82 (X : Type) (n : Nat) : LO (cx8 X n) 8 Tryz.f8 0 (ql82 X n):=lok
theorem zx0 (X : Type) (n : Nat) : CxOK Tryz.prog SW (cx8 X n):=mx (T1 (J Tryz.func8 (by decide))) (J (zb (ok15 n)) (T1 (zb (ok16 n)))) (T1 (okc (T1 (T1 (qo82 X n))) trivial)) trivial
abbrev P8 : List SV:=[V4,V0]
abbrev R8 : RV:=.many [V0,V0,V0]
theorem ok8 (n : Nat) : FO 8 P8 R8 (F.zai n):=zf WOf.st (zx0 _ n) (d:=8) fun _ => by kernel_rfl
noncomputable def o8 (n : Nat):=oc 8 P8 R8 (F.zai n)
def qh83 : Shape:=⟨[(10,V6),(13,V0),(14,V0)],[],[],[],[],0,0,0⟩
def qe83_0 : Shape:=⟨[(13,V0)],[],[],[],[],0,0,0⟩
noncomputable def ql83 (X : Type) (n : Nat) : LoopI X:=mkLi 8 0 0 0 qh83 [(0,qe83_0)] [] n fun m ks => F.zaj.L9 n (xe qe83_0 ks 0) m
noncomputable def cx9 (X : Type) (n : Nat) : Cx X:=mkCx tab.get [(9,Tryz.f9)] [o18 n,o19 n] [(9,9,[ql83 X n])] [] [] []
theorem qo83 (X : Type) (n : Nat) : LO (cx9 X n) 9 Tryz.f9 0 (ql83 X n):=lok
theorem zx1 (X : Type) (n : Nat) : CxOK Tryz.prog SW (cx9 X n):=mx (T1 (J Tryz.func9 (by decide))) (J (zb (ok18 n)) (T1 (zb (ok19 n)))) (T1 (okc (T1 (T1 (qo83 X n))) trivial)) trivial
abbrev P9 : List SV:=[V4,V0]
abbrev R9 : RV:=.many [V0,V0,V0]
theorem ok9 (n : Nat) : FO 9 P9 R9 (F.zaj n):=zf WOf.st (zx1 _ n) (d:=8) fun _ => by kernel_rfl
noncomputable def o9 (n : Nat):=oc 9 P9 R9 (F.zaj n)
noncomputable def cx3 (X : Type) (n : Nat) : Cx X:=mkCx tab.get [(3,Tryz.f3)] [o4 n,o5 n,o6 n,o7 n,o8 n,o9 n,o10 n] [] [] [] []
theorem zx2 (X : Type) (n : Nat) : CxOK Tryz.prog SW (cx3 X n):=mx (T1 (J Tryz.func3 (by decide))) (J (zb (ok4 n)) (J (zb (ok5 n)) (J (zb (ok6 n)) (J (zb (ok7 n)) (J (zb (ok8 n)) (J (zb (ok9 n)) (T1 (zb (ok10 n))))))))) (T1 (okc trivial trivial)) trivial
abbrev P3 : List SV:=[V4,V0,V0]
abbrev R3 : RV:=.one .bool
theorem ok3 (n : Nat) : FO 3 P3 R3 (F.zbo n):=zf WOf.st (zx2 _ n) (d:=8) fun _ => by kernel_rfl
end Go.AM
set_option linter.unusedVariables false
set_option linter.unusedSimpArgs false
namespace Go.AM
theorem zo {x : Int} (h : 0 ≤ x ∧ x < 18446744073709551616) : IntKind.wrap .u64 x = x:=by
  show x % (2 ^ 64) = x
  omega
theorem wrapB (x : Nat) : IntKind.wrap .u8 (x : Int) = ((x % 256 : Nat) : Int):=by
  show (x : Int) % (2 ^ 8) = _
  omega
theorem shr7 (k : Nat) : shrA .u64 (k : Int) (7 : Int) = ((k / 128 : Nat) : Int):=by
  show (k : Int).fdiv (2 ^ 7) = _
  rw [Int.fdiv_eq_ediv_of_nonneg _ (by omega)]
  omega
set_option maxRecDepth 100000 in
theorem or128 : ∀ x : Nat,x < 256→(bitsA .or .u8 (x : Int) (128 : Int)).toNat = x % 128 + 128:=by
  intro x hx
  have h : (BitVec.ofInt 8 (x : Int) ||| BitVec.ofInt 8 128).toNat = x % 128 + 128:=by
    have:=(by decide : ∀ y : Fin 256,(BitVec.ofInt 8 (y.val : Int) ||| BitVec.ofInt 8 128).toNat = y.val % 128 + 128) ⟨x,hx⟩
    exact this
  show (IntKind.wrap .u8 ((BitVec.ofInt 8 (x : Int) ||| BitVec.ofInt 8 128).toNat : Int)).toNat = _
  rw [h,wrapB]
  omega
def vput (n : Nat) : List UInt8:=if h : n < 128 then [UInt8.ofNat n] else UInt8.ofNat (n % 128 + 128) :: vput (n / 128)
termination_by n
decreasing_by omega
theorem zau {n : Nat} (h : n < 128) : vput n = [UInt8.ofNat n]:=by rw [vput,dif_pos h]
theorem zdr {n : Nat} (h : ¬ n < 128) : vput n = UInt8.ofNat (n % 128 + 128) :: vput (n / 128):=by rw [vput,dif_neg h]
theorem zkt : ∀ (j n : Nat),n < 128 ^ (j + 1)→(vput n).length ≤ j + 1
  | 0,n,h => by rw [zau (by omega)]; simp
  | j + 1,n,h => by
    by_cases hn : n < 128
    · rw [zau hn]; simp
    · rw [zdr hn]
      have:=zkt j (n / 128) (by rw [Nat.pow_succ] at h; omega)
      simp only [List.length_cons]; omega
theorem zn {n : Nat} (h : n < 18446744073709551616) : (vput n).length ≤ 10:=zkt 9 n (by omega)
theorem grow1 {X : Type} {a b : Nat} (h : a + b ≤ 100000000) (y : Option X) : (bif decide ((a + b) * 1 ≤ 2 ^ 46) && decide (0 < 1 ∧ 1 ≤ 2 ^ 20) then y else none) = y:=by
  have : decide ((a + b) * 1 ≤ 2 ^ 46) = true:=by simp only [decide_eq_true_eq]; omega
  rw [this]; rfl
theorem zqa (n : Nat) (k0 : Int→List UInt8→Nat→Option (List UInt8)) (h0 : ∀ (a : Nat) o,a < 128→o.length ≤ 100→k0 (a : Int) o o.length = some (o ++ [UInt8.ofNat a])) : ∀ (j k m : Nat) (o : List UInt8),k < 128 ^ (j + 1)→j < m→o.length + j ≤ 100 →
    F.zh.L2 n k0 m (k : Int) o o.length = some (o ++ vput k):=by
  intro j
  induction j with
  | zero =>
    intro k m o hk hm ho
    obtain ⟨m,rfl⟩ : ∃ q,m = q + 1:=⟨m - 1,by omega⟩
    show F.zh.L2.step n _ _ _ _ _ = _
    unfold F.zh.L2.step
    rw [ze (by omega),h0 k o (by omega) (by omega),zau (n:=k) (by omega)]
  | succ j ih =>
    intro k m o hk hm ho
    obtain ⟨m,rfl⟩ : ∃ q,m = q + 1:=⟨m - 1,by omega⟩
    show F.zh.L2.step n _ _ _ _ _ = _
    unfold F.zh.L2.step
    by_cases hs : k < 128
    · rw [ze (by omega),h0 k o hs (by omega),zau hs]
    · rw [zd (by omega),grow1 (by omega),shr7,wrapB,or128 _ (by omega)]
      simp only [Nat.beq_refl,cond_true]
      have:=ih (k / 128) m (o ++ [UInt8.ofNat (k % 256 % 128 + 128)]) (by rw [Nat.pow_succ] at hk; omega) (by omega) (by simp; omega)
      rw [this,zdr hs,show k % 256 % 128 = k % 128 from by omega]
      simp
theorem zad (n : Nat) (hn : 100 ≤ n) (k : Nat) (hk : k < 18446744073709551616) : F.zh n (k : Int) = some (vput k):=by
  unfold F.zh
  rw [show (decide ((0 : Int) = 0) && (decide ((0 : Int) ≤ (10 : Int)) && decide ((1 : Int) * (10 : Int) ≤ 281474976710656) && decide ((10 : Int) ≤ 281474976710656)) && true) = true from by decide,cond_true]
  have := zqa n (fun e1_0 e1_3 e1_k0 =>
        bif decide ((e1_3.length + 1) * 1 ≤ 2 ^ 46) && decide (0 < 1 ∧ 1 ≤ 2 ^ 20) then
          bif Nat.beq e1_k0 e1_3.length then
            ((bif Nat.beq ((e1_3 ++ ([UInt8.ofNat ((IntKind.wrap .u8 (e1_0))).toNat])).length) ((e1_3 ++ ([UInt8.ofNat ((IntKind.wrap .u8 (e1_0))).toNat])).length) then some (e1_3 ++ ([UInt8.ofNat ((IntKind.wrap .u8 (e1_0))).toNat]),([none] : List (Option Nat))) else none).bind fun x => some x.1)
          else
            none
        else
          none) (fun a o ha ho => by
    rw [grow1 (by omega),Nat.beq_refl,cond_true,Nat.beq_refl,cond_true,za,wrapB]
    rw [show (((a % 256 : Nat) : Int)).toNat = a from by omega]) 9 k n [] (by omega) (by omega) (by simp)
  simpa using this
theorem zoc (n : Nat) (k0 : Int→List UInt8→Nat→Option (List UInt8)) (h0 : ∀ (a : Nat) o,a < 128→o.length ≤ 100→k0 (a : Int) o o.length = some (o ++ [UInt8.ofNat a])) : ∀ (j k m : Nat) (o : List UInt8),k < 18446744073709551616→k < 128 ^ (j + 1)→j < m→o.length + j ≤ 100 →
    F.zp.L2 n k0 m (k : Int) o o.length = some (o ++ vput k):=by
  intro j
  induction j with
  | zero =>
    intro k m o _ hk hm ho
    obtain ⟨m,rfl⟩ : ∃ q,m = q + 1:=⟨m - 1,by omega⟩
    show F.zp.L2.step n _ _ _ _ _ = _
    unfold F.zp.L2.step
    rw [ze (by omega),h0 k o (by omega) (by omega),zau (n:=k) (by omega)]
  | succ j ih =>
    intro k m o h6 hk hm ho
    obtain ⟨m,rfl⟩ : ∃ q,m = q + 1:=⟨m - 1,by omega⟩
    show F.zp.L2.step n _ _ _ _ _ = _
    unfold F.zp.L2.step
    by_cases hs : k < 128
    · rw [ze (by omega),h0 k o hs (by omega),zau hs]
    · have e1 : IntKind.wrap .u64 ((k : Int).tdiv 128) = ((k / 128 : Nat) : Int):=by
        rw [Int.tdiv_eq_ediv_of_nonneg (by omega),zo (by omega)]; omega
      have e2 : IntKind.wrap .u8 (IntKind.wrap .u64 ((k : Int).tmod 128 + 128)) = ((k % 128 + 128 : Nat) : Int):=by
        rw [Int.tmod_eq_emod_of_nonneg (by omega),zo (by omega),show (k : Int) % 128 + 128 = ((k % 128 + 128 : Nat) : Int) from by omega,wrapB]
        omega
      rw [zd (by omega),grow1 (by omega),e1,e2]
      simp only [Nat.beq_refl,cond_true]
      have:=ih (k / 128) m (o ++ [UInt8.ofNat (k % 128 + 128)]) (by omega) (by rw [Nat.pow_succ] at hk; omega) (by omega) (by simp; omega)
      rw [show ((((k % 128 + 128 : Nat) : Int)).toNat) = k % 128 + 128 from by omega,this,zdr hs]
      simp
theorem zx (n : Nat) (hn : 100 ≤ n) (k : Nat) (hk : k < 18446744073709551616) : F.zp n (k : Int) = some (vput k):=by
  unfold F.zp
  have := zoc n (fun e1_0 e1_3 e1_k0 =>
      bif decide ((e1_3.length + 1) * 1 ≤ 2 ^ 46) && decide (0 < 1 ∧ 1 ≤ 2 ^ 20) then
        bif Nat.beq e1_k0 e1_3.length then
          ((bif Nat.beq ((e1_3 ++ ([UInt8.ofNat ((IntKind.wrap .u8 (e1_0))).toNat])).length) ((e1_3 ++ ([UInt8.ofNat ((IntKind.wrap .u8 (e1_0))).toNat])).length) then some (e1_3 ++ ([UInt8.ofNat ((IntKind.wrap .u8 (e1_0))).toNat]),([none] : List (Option Nat))) else none).bind fun x => some x.1)
        else
          none
      else
        none) (fun a o ha ho => by
    rw [grow1 (by omega),Nat.beq_refl,cond_true,Nat.beq_refl,cond_true,za,wrapB]
    rw [show (((a % 256 : Nat) : Int)).toNat = a from by omega]) 9 k n [] hk (by omega) (by omega) (by simp)
  simpa using this
def zigN (e : Int) : Nat:=if e < 0 then (-2 * e - 1).toNat else (2 * e).toNat
theorem zw0 {x : Int} (h : 0 ≤ x ∧ x < 18446744073709551616) : bitsA .xor .u64 (IntKind.max .u64) x = 18446744073709551615 - x:=by
  have h1 : (BitVec.ofInt 64 18446744073709551615 ^^^ BitVec.ofInt 64 x).toNat = (18446744073709551615 - x).toNat:=by
    have : BitVec.ofInt 64 18446744073709551615 = BitVec.allOnes 64:=by decide
    rw [this,BitVec.allOnes_xor,BitVec.toNat_not,BitVec.toNat_ofInt]
    have : x % (2 ^ 64 : Nat) = x:=by omega
    rw [this]
    omega
  show IntKind.wrap .u64 ((BitVec.ofInt 64 18446744073709551615 ^^^ BitVec.ofInt 64 x).toNat : Int) = _
  rw [h1,zo (by omega)]
  omega
theorem shl1 {x : Int} : shlA .u64 x (1 : Int) = (x * 2) % 18446744073709551616:=rfl
theorem or1 {x : Nat} (h : x < 9223372036854775808) : bitsA .or .u64 ((2 * x : Nat) : Int) (1 : Int) = ((2 * x + 1 : Nat) : Int):=by
  have h1 : (BitVec.ofInt 64 ((2 * x : Nat) : Int) ||| BitVec.ofInt 64 1).toNat = 2 * x + 1:=by
    rw [BitVec.toNat_or,BitVec.toNat_ofInt,BitVec.toNat_ofInt]
    rw [show ((((2 * x : Nat) : Int) % ((2 ^ 64 : Nat) : Int)).toNat) = 2 * x from by omega,show (((1 : Int) % ((2 ^ 64 : Nat) : Int)).toNat) = 1 from by decide]
    have:=Nat.two_pow_add_eq_or_of_lt (i:=1) (b:=1) (by decide) x
    rw [Nat.pow_one] at this
    exact this.symm
  show IntKind.wrap .u64 ((BitVec.ofInt 64 ((2 * x : Nat) : Int) ||| BitVec.ofInt 64 1).toNat : Int) = _
  rw [h1,zo (by omega)]
theorem zx3 (n : Nat) (e : Int) (h : -1000 ≤ e ∧ e ≤ 1000) : F.zb7 n e = some ((zigN e : Nat) : Int):=by
  unfold F.zb7 zigN
  by_cases h0 : e < 0
  · rw [zd h0,if_pos h0]
    have e1 : IntKind.wrap .u64 e = e + 18446744073709551616:=by
      show e % (2 ^ 64) = _
      omega
    rw [e1,zw0 (by omega),shl1,show (18446744073709551615 - (e + 18446744073709551616)) * 2 % 18446744073709551616 = ((2 * (-e - 1).toNat : Nat) : Int) from by omega,or1 (by omega)]
    congr 1; omega
  · rw [ze h0,if_neg h0,zo (by omega),shl1]
    congr 1; omega
theorem zw1 (n : Nat) (e : Int) (h : -1000 ≤ e ∧ e ≤ 1000) : F.zch n e = some ((zigN e : Nat) : Int):=by
  unfold F.zch zigN
  by_cases h0 : e < 0
  · rw [ze (by omega),if_pos h0]
    simp only [show ∀ x : Int,IntKind.wrap .u64 x = x % 18446744073709551616 from fun _ => rfl]
    congr 1; omega
  · rw [zd (by omega),if_neg h0]
    simp only [show ∀ x : Int,IntKind.wrap .u64 x = x % 18446744073709551616 from fun _ => rfl]
    congr 1; omega
end Go.AM
set_option linter.unusedVariables false
set_option linter.unusedSimpArgs false
namespace Go.AM
theorem zf9 (x : Int) : IntKind.wrap .u32 x = x % 4294967296:=rfl
theorem wrap32 {x : Nat} (h : x < 4294967296) : IntKind.wrap .u32 (x : Int) = (x : Int):=by rw [zf9]; omega
theorem bv32 {x : Nat} (h : x < 4294967296) : (BitVec.ofInt 32 (x : Int)).toNat = x:=by
  rw [BitVec.toNat_ofInt]; omega
theorem xor32 {a b : Nat} (ha : a < 4294967296) (hb : b < 4294967296) : bitsA .xor .u32 (a : Int) (b : Int) = ((a ^^^ b : Nat) : Int):=by
  show IntKind.wrap .u32 ((BitVec.ofInt 32 (a : Int) ^^^ BitVec.ofInt 32 (b : Int)).toNat : Int) = _
  rw [BitVec.toNat_xor,bv32 ha,bv32 hb,wrap32 (Nat.xor_lt_two_pow (n:=32) ha hb)]
theorem and32 {a : Nat} (ha : a < 4294967296) : bitsA .and .u32 (a : Int) (1 : Int) = ((a % 2 : Nat) : Int):=by
  show IntKind.wrap .u32 ((BitVec.ofInt 32 (a : Int) &&& BitVec.ofInt 32 ((1 : Nat) : Int)).toNat : Int) = _
  rw [BitVec.toNat_and,bv32 ha,bv32 (by decide),Nat.and_one_is_mod,wrap32 (by omega)]
theorem shr32 (a : Nat) : shrA .u32 (a : Int) (1 : Int) = ((a / 2 : Nat) : Int):=by
  show (a : Int).fdiv (2 ^ 1) = _
  rw [Int.fdiv_eq_ediv_of_nonneg _ (by omega)]
  omega
def bit1 (x : Nat) : Nat:=if x % 2 = 1 then (x / 2) ^^^ 3988292384 else x / 2
theorem zff {x : Nat} (h : x < 4294967296) : bit1 x < 4294967296:=by
  unfold bit1
  split
  · exact Nat.xor_lt_two_pow (n:=32) (by omega) (by omega)
  · omega
def bits : Nat→Nat→Nat
  | 0,x => x
  | j + 1,x => bits j (bit1 x)
theorem zc5 : ∀ (j : Nat) {x : Nat},x < 4294967296→bits j x < 4294967296
  | 0,x,h => h
  | j + 1,x,h => zc5 j (zff h)
theorem zqb (n : Nat) (k0 : Int→Option Int) : ∀ (j x m : Nat),x < 4294967296→j ≤ 8→j < m→F.zax.L2 n k0 m (x : Int) ((8 - j : Nat) : Int) = k0 (bits j x : Nat):=by
  intro j
  induction j with
  | zero =>
    intro x m hx hj hm
    obtain ⟨m,rfl⟩ : ∃ q,m = q + 1:=⟨m - 1,by omega⟩
    show F.zax.L2.step n _ _ _ _ = _
    unfold F.zax.L2.step
    rw [ze (by omega)]; rfl
  | succ j ih =>
    intro x m hx hj hm
    obtain ⟨m,rfl⟩ : ∃ q,m = q + 1:=⟨m - 1,by omega⟩
    show F.zax.L2.step n _ _ _ _ = _
    unfold F.zax.L2.step
    have e : bitsA .xor .u32 (shrA .u32 (x : Int) (1 : Int)) (IntKind.wrap .u32 ((bitsA .and .u32 (x : Int) (1 : Int)) * (3988292384 : Int))) = ((bit1 x : Nat) : Int):=by
      rw [shr32,and32 hx,show IntKind.wrap .u32 (((x % 2 : Nat) : Int) * (3988292384 : Int)) = (((x % 2) * 3988292384 : Nat) : Int) from by rw [zf9]; omega,xor32 (by omega) (by omega)]
      unfold bit1
      split
      · rename_i h; rw [h,Nat.one_mul]
      · rw [show x % 2 = 0 from by omega,Nat.zero_mul,Nat.xor_zero]
    rw [zd (by omega),e,show IntKind.wrap .i64 (((8 - (j + 1) : Nat) : Int) + 1) = ((8 - j : Nat) : Int) from by rw [zq (by omega)]; omega]
    exact ih _ m (zff hx) (by omega) (by omega)
theorem zod (n : Nat) (hn : 100 ≤ n) {x : Nat} (hx : x < 4294967296) : F.zax n (x : Int) = some ((bits 8 x : Nat) : Int):=by
  unfold F.zax
  exact zqb n _ 8 x n hx (by omega) (by omega)
theorem zoe (n : Nat) (k0 : Int→Option Int) : ∀ (j x m : Nat),x < 4294967296→j ≤ 8→j < m→F.zag.L2 n k0 m (x : Int) ((8 - j : Nat) : Int) = k0 (bits j x : Nat):=by
  intro j
  induction j with
  | zero =>
    intro x m hx hj hm
    obtain ⟨m,rfl⟩ : ∃ q,m = q + 1:=⟨m - 1,by omega⟩
    show F.zag.L2.step n _ _ _ _ = _
    unfold F.zag.L2.step
    rw [ze (by omega)]; rfl
  | succ j ih =>
    intro x m hx hj hm
    obtain ⟨m,rfl⟩ : ∃ q,m = q + 1:=⟨m - 1,by omega⟩
    show F.zag.L2.step n _ _ _ _ = _
    unfold F.zag.L2.step
    have e1 : IntKind.wrap .u32 ((x : Int).tdiv (2 : Int)) = ((x / 2 : Nat) : Int):=by
      rw [Int.tdiv_eq_ediv_of_nonneg (by omega),zf9]; omega
    have e2 : (x : Int).tmod (2 : Int) = ((x % 2 : Nat) : Int):=by
      rw [Int.tmod_eq_emod_of_nonneg (by omega)]; omega
    have e3:=xor32 (a:=x / 2) (b:=3988292384) (by omega) (by omega)
    rw [zd (by omega),e1,e2,show (3988292384 : Int) = ((3988292384 : Nat) : Int) from rfl,e3,show IntKind.wrap .i64 (((8 - (j + 1) : Nat) : Int) + 1) = ((8 - j : Nat) : Int) from by rw [zq (by omega)]; omega]
    by_cases h : x % 2 = 1
    · rw [h]
      show F.zag.L2 n k0 m _ _ = _
      have:=ih (bit1 x) m (zff hx) (by omega) (by omega)
      unfold bit1 at this
      rw [if_pos h] at this
      rw [this]
      show _ = k0 (bits j (bit1 x) : Nat)
      unfold bit1
      rw [if_pos h]
    · rw [show x % 2 = 0 from by omega]
      show F.zag.L2 n k0 m _ _ = _
      have:=ih (bit1 x) m (zff hx) (by omega) (by omega)
      unfold bit1 at this
      rw [if_neg h] at this
      rw [this]
      show _ = k0 (bits j (bit1 x) : Nat)
      unfold bit1
      rw [if_neg h]
theorem zof (n : Nat) (hn : 100 ≤ n) {x : Nat} (hx : x < 4294967296) : F.zag n (x : Int) = some ((bits 8 x : Nat) : Int):=by
  unfold F.zag
  exact zoe n _ 8 x n hx (by omega) (by omega)
def crcF : Nat→List UInt8→Nat
  | x,[] => x
  | x,c :: l => crcF (bits 8 (x ^^^ c.toNat)) l
theorem zbg (c : UInt8) : c.toNat < 4294967296:=by have:=c.toNat_lt; omega
theorem znc : ∀ (l : List UInt8) {x : Nat},x < 4294967296→crcF x l < 4294967296
  | [],x,h => h
  | c :: l,x,h => znc l (zc5 8 (Nat.xor_lt_two_pow (n:=32) h (zbg c)))
def crcN (l : List UInt8) : Nat:=crcF 4294967295 l ^^^ 4294967295
theorem ztp (n : Nat) (hn : 100 ≤ n) (k0 : Int→Option Int) (l : List UInt8) (hl : l.length ≤ 100000000) : ∀ (r : List UInt8) (i m x : Nat),l.drop i = r→r.length < m→x < 4294967296→i ≤ l.length →
    F.zaq.L3 n k0 m (x : Int) l (l.length : Int) (i : Int) = k0 (crcF x r : Nat):=by
  intro r
  induction r with
  | nil =>
    intro i m x hi hm hx hil
    obtain ⟨m,rfl⟩ : ∃ q,m = q + 1:=⟨m - 1,by omega⟩
    have:=zj hi
    show F.zaq.L3.step n _ _ _ _ _ _ = _
    unfold F.zaq.L3.step
    rw [ze (by omega)]; rfl
  | cons c r ih =>
    intro i m x hi hm hx hil
    obtain ⟨m,rfl⟩ : ∃ q,m = q + 1:=⟨m - 1,by omega⟩
    obtain ⟨h1,h2,h3⟩:=zi hi
    show F.zaq.L3.step n _ _ _ _ _ _ = _
    unfold F.zaq.L3.step
    rw [zd (by omega),zk,h2,za,wrap32 (zbg c),xor32 hx (zbg c),zod n hn (Nat.xor_lt_two_pow (n:=32) hx (zbg c)),za,zh (by omega)]
    exact ih (i + 1) m _ h3 (by simpa using hm) (zc5 8 (Nat.xor_lt_two_pow (n:=32) hx (zbg c))) (by omega)
theorem zqc (n : Nat) (hn : 100 ≤ n) (l : List UInt8) (hl : l.length ≤ 100000000) (hm : l.length < n) : F.zcn n l = some ((crcN l : Nat) : Int):=by
  unfold F.zcn F.zaq
  have e1 : bitsA .xor .u32 (0 : Int) (4294967295 : Int) = ((4294967295 : Nat) : Int):=by decide
  rw [e1,show (0 : Int) = ((0 : Nat) : Int) from rfl,ztp n hn _ l hl l 0 n 4294967295 (by simp) hm (by omega) (by omega)]
  rw [show (4294967295 : Int) = ((4294967295 : Nat) : Int) from rfl,xor32 (znc l (by omega)) (by omega)]
  rfl
theorem zqd (n : Nat) (hn : 100 ≤ n) (k0 : Int→Option Int) (l : List UInt8) (hl : l.length ≤ 100000000) : ∀ (r : List UInt8) (i m x : Nat),l.drop i = r→r.length < m→x < 4294967296→i ≤ l.length →
    F.zau.L3 n k0 m l ((x ^^^ 4294967295 : Nat) : Int) (i : Int) = k0 (crcF x r ^^^ 4294967295 : Nat):=by
  intro r
  induction r with
  | nil =>
    intro i m x hi hm hx hil
    obtain ⟨m,rfl⟩ : ∃ q,m = q + 1:=⟨m - 1,by omega⟩
    have:=zj hi
    show F.zau.L3.step n _ _ _ _ _ = _
    unfold F.zau.L3.step
    rw [ze (by omega)]; rfl
  | cons c r ih =>
    intro i m x hi hm hx hil
    obtain ⟨m,rfl⟩ : ∃ q,m = q + 1:=⟨m - 1,by omega⟩
    obtain ⟨h1,h2,h3⟩:=zi hi
    have hx' : x ^^^ 4294967295 < 4294967296:=Nat.xor_lt_two_pow (n:=32) hx (by omega)
    have hxc : x ^^^ c.toNat < 4294967296:=Nat.xor_lt_two_pow (n:=32) hx (zbg c)
    show F.zau.L3.step n _ _ _ _ _ = _
    unfold F.zau.L3.step
    rw [zd (by omega),zk,h2,za]
    unfold F.zca
    rw [show (4294967295 : Int) = ((4294967295 : Nat) : Int) from rfl,xor32 hx' (by omega),Nat.xor_assoc,Nat.xor_self,Nat.xor_zero,wrap32 (zbg c),xor32 hx (zbg c),zof n hn hxc,za,xor32 (zc5 8 hxc) (by omega),za,zh (by omega)]
    exact ih (i + 1) m _ h3 (by simpa using hm) (zc5 8 hxc) (by omega)
def crcB (l : List UInt8) : List UInt8:=[UInt8.ofNat (IntKind.wrap .u8 (shrA .u32 ((crcN l : Nat) : Int) (24 : Int))).toNat,UInt8.ofNat (IntKind.wrap .u8 (shrA .u32 ((crcN l : Nat) : Int) (16 : Int))).toNat,UInt8.ofNat (IntKind.wrap .u8 (shrA .u32 ((crcN l : Nat) : Int) (8 : Int))).toNat,UInt8.ofNat (IntKind.wrap .u8 ((crcN l : Nat) : Int)).toNat]
theorem zqe (n : Nat) (hn : 100 ≤ n) (l : List UInt8) (hl : l.length ≤ 100000000) (hm : l.length < n) : F.zci n l = some (crcB l):=by
  have e:=zqd n hn (fun e3_3 => some (e3_3)) l hl l 0 n 4294967295 (by simp) hm (by omega) (by omega)
  unfold F.zci F.zau
  rw [show ((4294967295 ^^^ 4294967295 : Nat) : Int) = (0 : Int) from by decide,show ((0 : Nat) : Int) = (0 : Int) from rfl] at e
  rw [e]
  rfl
theorem zma (n : Nat) (l : List UInt8) : F.zcm n ((crcN l : Nat) : Int) = some (crcB l):=rfl
end Go.AM
set_option linter.unusedVariables false
set_option linter.unusedSimpArgs false
namespace Go.AM
def isDig (b : UInt8) : Bool:=decide (48 ≤ b.toNat) && decide (b.toNat ≤ 57)
def dv (b : UInt8) : Nat:=b.toNat - 48
def valF (a : Nat) (l : List UInt8) : Nat:=l.foldl (fun a b => a * 10 + dv b) a
theorem zku (a : Nat) : valF a [] = a:=rfl
theorem zqf (a : Nat) (b : UInt8) (l : List UInt8) : valF a (b :: l) = valF (a * 10 + dv b) l:=by unfold valF; rw [List.foldl_cons]
def val (l : List UInt8) : Nat:=valF 0 l
def Digs (l : List UInt8) : Prop:=l.all isDig = true
theorem za8 {b : UInt8} : isDig b = true ↔ 48 ≤ b.toNat ∧ b.toNat ≤ 57:=by simp [isDig]
theorem zae {b : UInt8} {l : List UInt8} : Digs (b :: l) ↔ isDig b = true ∧ Digs l:=by simp [Digs]
theorem zao {l m : List UInt8} : Digs (l ++ m) ↔ Digs l ∧ Digs m:=by simp [Digs]
theorem zga (k : Nat) : Digs (List.replicate k 48):=by
  unfold Digs
  rw [List.all_eq_true]
  intro x hx
  rw [List.eq_of_mem_replicate hx]
  rfl
theorem zog {b : UInt8} (h : isDig b = true) : dv b < 10:=by
  have:=za8.1 h
  unfold dv
  omega
theorem zc6 {a b : UInt8} (h : a.toNat = b.toNat) : a = b:=UInt8.toNat_inj.1 h
theorem zex {a b : UInt8} (ha : isDig a = true) (hb : isDig b = true) (h : dv a = dv b) : a = b:=by
  have h1:=za8.1 ha
  have h2:=za8.1 hb
  unfold dv at h
  exact zc6 (by omega)
theorem zw2 (a : Nat) (l : List UInt8) : valF a l = a * 10 ^ l.length + val l:=by
  unfold val
  induction l generalizing a with
  | nil => rw [zku,zku]; simp
  | cons b l ih =>
    simp only [zqf,List.length_cons]
    rw [ih (a * 10 + dv b),ih (0 * 10 + dv b),Nat.pow_succ,Nat.add_mul,Nat.zero_mul,Nat.zero_add,Nat.mul_assoc,Nat.mul_comm 10,Nat.add_assoc]
theorem zfg : val [] = 0:=rfl
theorem zaf (b : UInt8) (l : List UInt8) : val (b :: l) = dv b * 10 ^ l.length + val l:=by
  show valF (0 * 10 + dv b) l = _
  rw [zw2,Nat.zero_mul,Nat.zero_add]
theorem zb5 (l m : List UInt8) : val (l ++ m) = val l * 10 ^ m.length + val m:=by
  induction l with
  | nil => simp [zfg]
  | cons b l ih => rw [List.cons_append,zaf,zaf,ih,List.length_append,Nat.pow_add,Nat.add_mul,Nat.mul_assoc,Nat.add_assoc]
theorem zgb (l : List UInt8) (b : UInt8) : val (l ++ [b]) = val l * 10 + dv b:=by rw [zb5,zaf]; simp [zfg]
theorem zc7 {l : List UInt8} (h : Digs l) : val l < 10 ^ l.length:=by
  induction l with
  | nil => simp [zfg]
  | cons b l ih =>
    obtain ⟨h1,h2⟩:=zae.1 h
    have:=ih h2
    have hd:=zog h1
    rw [zaf,List.length_cons,Nat.pow_succ,Nat.mul_comm (10 ^ l.length)]
    have h3 : dv b * 10 ^ l.length ≤ 9 * 10 ^ l.length:=Nat.mul_le_mul_right _ (by omega)
    omega
theorem zx7 : dv 48 = 0:=rfl
theorem zhp (k : Nat) : val (List.replicate k 48) = 0:=by
  induction k with
  | zero => rfl
  | succ k ih => rw [List.replicate_succ,zaf,ih,zx7]; simp
theorem zc8 (k : Nat) (l : List UInt8) : val (List.replicate k 48 ++ l) = val l:=by rw [zb5,zhp]; simp
theorem za5 (k : Nat) (l : List UInt8) : val (l ++ List.replicate k 48) = val l * 10 ^ k:=by rw [zb5,zhp]; simp
theorem zmb {l : List UInt8} (hd : Digs l) (h : val l = 0) : l = List.replicate l.length 48:=by
  induction l with
  | nil => rfl
  | cons b l ih =>
    obtain ⟨h1,h2⟩:=zae.1 hd
    rw [zaf] at h
    have hp : 0 < 10 ^ l.length:=Nat.pow_pos (by omega)
    have h3 : dv b = 0:=by
      cases hb : dv b with
      | zero => rfl
      | succ k => rw [hb,Nat.succ_mul] at h; omega
    rw [List.length_cons,List.replicate_succ,← ih h2 (by omega)]
    rw [zex (a:=b) (b:=48) h1 rfl h3]
theorem znd {l m : List UInt8} (hl : Digs l) (hm : Digs m) (hlen : l.length = m.length) (h : val l = val m) : l = m:=by
  induction l generalizing m with
  | nil => cases m with
    | nil => rfl
    | cons => simp at hlen
  | cons b l ih => cases m with
    | nil => simp at hlen
    | cons c m =>
      obtain ⟨h1,h2⟩:=zae.1 hl
      obtain ⟨h3,h4⟩:=zae.1 hm
      have hlen : l.length = m.length:=by simpa using hlen
      rw [zaf,zaf,hlen] at h
      have b1:=zc7 h2
      have b2:=zc7 h4
      rw [hlen] at b1
      have hp : 0 < 10 ^ m.length:=Nat.pow_pos (by omega)
      have e : dv b = dv c:=by
        have q1:=congrArg (· / 10 ^ m.length) h
        simp only [Nat.mul_comm (dv b),Nat.mul_comm (dv c),Nat.mul_add_div hp,Nat.div_eq_of_lt b1,Nat.div_eq_of_lt b2] at q1
        omega
      rw [e] at h
      rw [zex h1 h3 e,ih h2 h4 hlen (by omega)]
theorem zqg (k : Nat) (h : k < 10) : (UInt8.ofNat (48 + k)).toNat = 48 + k:=by simp [UInt8.toNat_ofNat']; omega
theorem zkv (k : Nat) (h : k < 10) : isDig (UInt8.ofNat (48 + k)) = true:=by rw [za8,zqg k h]; omega
theorem zuv (k : Nat) (h : k < 10) : dv (UInt8.ofNat (48 + k)) = k:=by unfold dv; rw [zqg k h]; omega
theorem zcd {u : Nat} (h : u < 10) : Lib.decDigits u = [UInt8.ofNat (48 + u)]:=Lib.decDigits_one h
theorem zg4 {u : Nat} (h : ¬ u < 10) : Lib.decDigits u = Lib.decDigits (u / 10) ++ [UInt8.ofNat (48 + u % 10)]:=by rw [Lib.decDigits,dif_neg h]
theorem zbh (u : Nat) : Digs (Lib.decDigits u):=by
  induction u using Nat.strongRecOn with
  | _ u ih =>
    by_cases h : u < 10
    · rw [zcd h,zae]; exact ⟨zkv u h,rfl⟩
    · rw [zg4 h,zao,zae]
      exact ⟨ih _ (by omega),zkv _ (by omega),rfl⟩
theorem zc9 (u : Nat) : val (Lib.decDigits u) = u:=by
  induction u using Nat.strongRecOn with
  | _ u ih =>
    by_cases h : u < 10
    · rw [zcd h,zaf,zuv u h]; simp [zfg]
    · rw [zg4 h,zgb,ih _ (by omega),zuv _ (by omega)]; omega
theorem zby (u : Nat) : (Lib.decDigits u).length = Lib.nDigits u:=Lib.decDigits_length u
theorem zey {u k : Nat} (hk : 0 < k) (h : u < 10 ^ k) : (Lib.decDigits u).length ≤ k:=by
  rw [zby]
  induction k generalizing u with
  | zero => omega
  | succ k ih =>
    by_cases h1 : u < 10
    · rw [Lib.nDigits_small h1]; omega
    · rw [Lib.nDigits_big h1]
      cases k with
      | zero => simp at h; omega
      | succ k =>
        have:=ih (u:=u / 10) (by omega) (by rw [Nat.pow_succ] at h; omega)
        omega
def trz : List UInt8→List UInt8
  | [] => []
  | b :: l => if trz l = [] then (if b = 48 then [] else [b]) else b :: trz l
theorem zqh (l : List UInt8) (c : UInt8) : ∃ k,l = Lib.trimRightB l c ++ List.replicate k c ∧ (∀ x,(Lib.trimRightB l c).getLast? = some x→x ≠ c):=by
  have h:=List.takeWhile_append_dropWhile (p:=fun b : UInt8 => b == c) (l:=l.reverse)
  refine ⟨(l.reverse.takeWhile (· == c)).length,?_,?_⟩
  · unfold Lib.trimRightB
    have h2:=congrArg List.reverse h
    rw [List.reverse_append,List.reverse_reverse] at h2
    have h3 : (l.reverse.takeWhile (· == c)).reverse = List.replicate (l.reverse.takeWhile (· == c)).length c:=by
      rw [List.eq_replicate_iff]
      refine ⟨by simp,fun b hb => ?_⟩
      have:=List.all_eq_true.1 (List.all_takeWhile (p:=fun b : UInt8 => b == c) (l:=l.reverse)) b (List.mem_reverse.1 hb)
      simpa using this
    rw [h3] at h2
    exact h2.symm
  · intro x hx
    unfold Lib.trimRightB at hx
    rw [List.getLast?_reverse] at hx
    have:=List.head?_dropWhile_not (p:=fun b : UInt8 => b == c) (l:=l.reverse)
    rw [hx] at this
    simpa using this
theorem zbi (l : List UInt8) : ∃ k,l = trz l ++ List.replicate k 48 ∧ (∀ x,(trz l).getLast? = some x→x ≠ 48):=by
  induction l with
  | nil => exact ⟨0,rfl,by simp [trz]⟩
  | cons b l ih =>
    obtain ⟨k,h1,h2⟩:=ih
    unfold trz
    by_cases h : trz l = []
    · rw [if_pos h]
      rw [h,List.nil_append] at h1
      by_cases hb : b = 48
      · rw [if_pos hb]
        exact ⟨k + 1,by rw [List.replicate_succ,← h1,hb]; rfl,by simp⟩
      · rw [if_neg hb]
        exact ⟨k,by rw [← h1]; rfl,by simp [hb]⟩
    · rw [if_neg h]
      refine ⟨k,by rw [List.cons_append,← h1],?_⟩
      intro x hx
      rw [List.getLast?_cons] at hx
      cases e : (trz l).getLast? with
      | none => simp at e; exact absurd e h
      | some y =>
        rw [e] at hx
        have hy:=h2 y e
        simp at hx
        rw [← hx]; exact hy
theorem zkw {a b : List UInt8} {c : UInt8} {i j : Nat} (h : a ++ List.replicate i c = b ++ List.replicate j c) (ha : ∀ x,a.getLast? = some x→x ≠ c) (hb : ∀ x,b.getLast? = some x→x ≠ c) : a = b:=by
  induction i generalizing j with
  | zero =>
    cases j with
    | zero => simpa using h
    | succ j =>
      rw [List.replicate_succ',← List.append_assoc] at h
      simp only [List.replicate_zero,List.append_nil] at h
      exact absurd rfl (ha c (by rw [h]; simp))
  | succ i ih =>
    cases j with
    | zero =>
      rw [List.replicate_succ',← List.append_assoc] at h
      simp only [List.replicate_zero,List.append_nil] at h
      exact absurd rfl (hb c (by rw [← h]; simp))
    | succ j =>
      rw [List.replicate_succ',List.replicate_succ',← List.append_assoc,← List.append_assoc] at h
      exact ih (List.append_inj_left' h rfl)
theorem zqi (l : List UInt8) : Lib.trimRightB l 48 = trz l:=by
  obtain ⟨i,h1,h2⟩:=zqh l 48
  obtain ⟨j,h3,h4⟩:=zbi l
  exact zkw (h1.symm.trans h3) h2 h4
theorem zqj (l : List UInt8) (k : Nat) : trz (l ++ List.replicate k 48) = trz l:=by
  obtain ⟨i,h1,h2⟩:=zbi (l ++ List.replicate k 48)
  obtain ⟨j,h3,h4⟩:=zbi l
  refine zkw (i:=i) (j:=j + k) (c:=48) ?_ h2 h4
  rw [← h1]
  conv => lhs; rw [h3]
  rw [List.append_assoc,List.replicate_append_replicate]
theorem zez (l : List UInt8) : (trz l).length ≤ l.length:=by
  obtain ⟨k,h1,_⟩:=zbi l
  have:=congrArg List.length h1
  simp at this
  omega
theorem zkx {l : List UInt8} (h : Digs l) : Digs (trz l):=by
  obtain ⟨k,h1,_⟩:=zbi l
  rw [h1,zao] at h
  exact h.1
theorem zfh (l : List UInt8) : l = trz l ++ List.replicate (l.length - (trz l).length) 48:=by
  obtain ⟨k,h1,_⟩:=zbi l
  have:=congrArg List.length h1
  simp at this
  rw [show l.length - (trz l).length = k from by omega]
  exact h1
theorem zgc {l : List UInt8} {x : UInt8} (h : (trz l).getLast? = some x) : x ≠ 48:=by
  obtain ⟨k,_,h2⟩:=zbi l
  exact h2 x h
theorem zhq {l : List UInt8} (hd : Digs l) : trz l = [] ↔ val l = 0:=by
  constructor
  · intro h
    have:=zfh l
    rw [h,List.nil_append] at this
    rw [this,zhp]
  · intro h
    have:=zmb hd h
    obtain ⟨k,h1,h2⟩:=zbi l
    rw [this] at h1 ⊢
    have:=zqj [] l.length
    simpa [trz] using this
theorem zw3 (b c : UInt8) (l m : List UInt8) : Op.bytesLess (b :: l) (c :: m) = (decide (b.toNat < c.toNat) || (decide (b.toNat = c.toNat) && Op.bytesLess l m)):=by
  show (decide (b < c) || ((b == c) && Op.bytesLess l m)) = _
  congr 1
  congr 1
  by_cases h : b = c
  · simp [h]
  · have : ¬ b.toNat = c.toNat:=fun hh => h (zc6 hh)
    simp [h,this]
theorem ztq {l m : List UInt8} (hl : Digs l) (hm : Digs m) (hlen : l.length = m.length) : Op.bytesLess l m = decide (val l < val m):=by
  induction l generalizing m with
  | nil => cases m with
    | nil => rfl
    | cons => simp at hlen
  | cons b l ih => cases m with
    | nil => simp at hlen
    | cons c m =>
      obtain ⟨h1,h2⟩:=zae.1 hl
      obtain ⟨h3,h4⟩:=zae.1 hm
      have hlen : l.length = m.length:=by simpa using hlen
      have b1:=zc7 h2
      have b2:=zc7 h4
      rw [hlen] at b1
      have d1:=za8.1 h1
      have d2:=za8.1 h3
      rw [zw3,zaf,zaf,hlen]
      by_cases hn : b.toNat < c.toNat
      · have : (dv b + 1) * 10 ^ m.length ≤ dv c * 10 ^ m.length:=Nat.mul_le_mul_right _ (by unfold dv; omega)
        rw [Nat.add_mul] at this
        have h5 : dv b * 10 ^ m.length + val l < dv c * 10 ^ m.length + val m:=by omega
        simp [hn,h5]
      · by_cases hn' : c.toNat < b.toNat
        · have : (dv c + 1) * 10 ^ m.length ≤ dv b * 10 ^ m.length:=Nat.mul_le_mul_right _ (by unfold dv; omega)
          rw [Nat.add_mul] at this
          have h5 : ¬ dv b * 10 ^ m.length + val l < dv c * 10 ^ m.length + val m:=by omega
          have h6 : ¬ b.toNat = c.toNat:=by omega
          simp [hn,h5,h6]
        · rw [ih h2 h4 hlen]
          have : b = c:=zc6 (by omega)
          subst this
          simp
end Go.AM
set_option linter.unusedVariables false
set_option linter.unusedSimpArgs false
namespace Go.AM
abbrev DecD:=Bool × Int × Int × Unit
abbrev DecR:=DecD × Int × Unit
def two64 : Nat:=18446744073709551616
theorem z8 : two64 = 18446744073709551616:=rfl
def normR (neg : Bool) (c0 : Nat) (E : Int) : DecR:=
  if E < -18 then ((false,0,0,()),10,()) else if c0 * 10 ^ (E - 18).toNat < two64 then ((neg,((c0 * 10 ^ (E - 18).toNat : Nat) : Int),(if E ≤ 18 then E else 18),()),0,()) else ((false,0,0,()),10,())
def zeroD : DecR:=((false,0,0,()),0,())
def valR (neg : Bool) (d : List UInt8) (e : Int) : DecR:=
  if val d = 0 then zeroD else normR neg (val (trz d)) (e + ((d.length - (trz d).length : Nat) : Int))
theorem zne (d : List UInt8) : val d = val (trz d) * 10 ^ (d.length - (trz d).length):=by
  have:=congrArg val (zfh d)
  rw [za5] at this
  exact this
theorem zky {d : List UInt8} (hd : Digs d) (h : val d ≠ 0) : val (trz d) % 10 ≠ 0:=by
  have hne : trz d ≠ []:=fun hh => h ((zhq hd).1 hh)
  obtain ⟨x,hx⟩ : ∃ x,(trz d).getLast? = some x:=by
    cases e : (trz d).getLast? with
    | none => simp at e; exact absurd e hne
    | some x => exact ⟨x,rfl⟩
  have hx48:=zgc hx
  obtain ⟨ys,hys⟩:=List.getLast?_eq_some_iff.1 hx
  have hdig:=zkx hd
  rw [hys] at hdig ⊢
  obtain ⟨_,h2⟩:=zao.1 hdig
  obtain ⟨h3,_⟩:=zae.1 h2
  rw [zgb]
  have:=zog h3
  have h0 : dv x ≠ 0:=fun h0 => hx48 (zex h3 (b:=48) rfl h0)
  omega
theorem zmc {a b i j : Nat} (ha : a % 10 ≠ 0) (hb : b % 10 ≠ 0) (h : a * 10 ^ i = b * 10 ^ j) : a = b ∧ i = j:=by
  induction i generalizing j with
  | zero =>
    cases j with
    | zero => simpa using h
    | succ j => rw [Nat.pow_zero,Nat.mul_one,Nat.pow_succ,← Nat.mul_assoc] at h; omega
  | succ i ih =>
    cases j with
    | zero => rw [Nat.pow_zero,Nat.mul_one,Nat.pow_succ,← Nat.mul_assoc] at h; omega
    | succ j =>
      rw [Nat.pow_succ,Nat.pow_succ,← Nat.mul_assoc,← Nat.mul_assoc] at h
      obtain ⟨h1,h2⟩:=ih (Nat.eq_of_mul_eq_mul_right (by omega) h)
      exact ⟨h1,by omega⟩
theorem zco {d : List UInt8} (hd : Digs d) {c0 z : Nat} (h0 : c0 % 10 ≠ 0) (hv : val d = c0 * 10 ^ z) (neg : Bool) (e : Int) : valR neg d e = normR neg c0 (e + z):=by
  have hne : val d ≠ 0:=by
    rw [hv]
    have:=Nat.mul_pos (show 0 < c0 by omega) (Nat.pow_pos (n:=z) (show 0 < 10 by omega))
    omega
  unfold valR
  rw [if_neg hne]
  obtain ⟨h1,h2⟩:=zmc (zky hd hne) h0 ((zne d).symm.trans hv)
  rw [h1,h2]
theorem ziq (c : Nat) (h : 0 < c) : ∃ c0 z,c = c0 * 10 ^ z ∧ c0 % 10 ≠ 0:=by
  induction c using Nat.strongRecOn with
  | _ c ih =>
    by_cases h1 : c % 10 = 0
    · obtain ⟨c0,z,h2,h3⟩:=ih (c / 10) (by omega) (by omega)
      exact ⟨c0,z + 1,by rw [Nat.pow_succ,← Nat.mul_assoc,← h2]; omega,h3⟩
    · exact ⟨c,0,by simp,h1⟩
theorem ztr (n : Nat) (c d : Nat) (hc : c < two64) (hd : d < two64) : F.zcg n (c : Int) (d : Int) = some ((((c * 10 + d) % two64 : Nat) : Int),decide (c * 10 + d < two64),()):=by
  unfold F.zcg O.mul64
  rw [z8] at *
  rw [zd (by omega),za]
  unfold O.add64
  rw [show (c : Int).toNat = c from rfl,show (10 : Int).toNat = 10 from rfl]
  dsimp only
  rw [zd (by omega),za]
  simp only [Int.toNat_natCast,show (0 : Int).toNat = 0 from rfl,Nat.add_zero]
  by_cases h : c * 10 < 18446744073709551616
  · have e1 : ((((c * 10 / 18446744073709551616 : Nat) : Int)) == 0) = true:=by simp; omega
    rw [e1,cond_true]
    have e2 : c * 10 % 18446744073709551616 = c * 10:=Nat.mod_eq_of_lt h
    rw [e2]
    congr 2
    congr 1
    by_cases h2 : c * 10 + d < 18446744073709551616
    · have : (c * 10 + d) / 18446744073709551616 = 0:=Nat.div_eq_of_lt h2
      simp [h2,this]
    · have : ¬ (c * 10 + d) / 18446744073709551616 = 0:=by omega
      have e : ((((c * 10 + d) / 18446744073709551616 : Nat) : Int) == 0) = false:=by simp; omega
      rw [e]; simp [h2]
  · have e1 : ((((c * 10 / 18446744073709551616 : Nat) : Int)) == 0) = false:=by simp; omega
    rw [e1,cond_false]
    have : ¬ c * 10 + d < 18446744073709551616:=by omega
    simp only [this,decide_false]
    congr 2
    omega
theorem zoh (n : Nat) (X : Type) (k0 : Bool→Int→Int→Bool→Int→Int→Option X) (neg b : Bool) (x y : Int) (c0 : Nat) (h0 : c0 % 10 ≠ 0) : ∀ (z m : Nat) (e : Int),c0 * 10 ^ z < two64→-9223372036854775808 ≤ e→e + z ≤ 9223372036854775807→z < m →
    ∃ j,j ≤ z ∧ F.zg.L3 n k0 m neg ((c0 * 10 ^ z : Nat) : Int) e b x y = k0 neg ((c0 * 10 ^ j : Nat) : Int) (e + z - j) b x y ∧ (j = 0 ∨ 18 ≤ e + z - j) ∧ (e + z - j ≤ 18 ∨ j = z):=by
  intro z
  induction z with
  | zero =>
    intro m e hc he1 he2 hm
    obtain ⟨m,rfl⟩ : ∃ q,m = q + 1:=⟨m - 1,by omega⟩
    refine ⟨0,Nat.le_refl _,?_,Or.inl rfl,Or.inr rfl⟩
    show F.zg.L3.step n _ k0 _ _ _ _ _ _ = _
    unfold F.zg.L3.step
    have e1 : ((((c0 * 10 ^ 0 : Nat) : Int).tmod 10) == 0) = false:=by
      rw [Nat.pow_zero,Nat.mul_one]
      have : ¬ ((c0 : Int).tmod 10) = 0:=by
        rw [show ((c0 : Int).tmod 10) = ((c0 % 10 : Nat) : Int) from rfl]; omega
      simpa using this
    rw [e1,cond_false]
    congr 1
    omega
  | succ z ih =>
    intro m e hc he1 he2 hm
    obtain ⟨m,rfl⟩ : ∃ q,m = q + 1:=⟨m - 1,by omega⟩
    have hstep : F.zg.L3 n k0 (m + 1) neg ((c0 * 10 ^ (z + 1) : Nat) : Int) e b x y = F.zg.L3.step n (F.zg.L3 n k0 m) k0 neg ((c0 * 10 ^ (z + 1) : Nat) : Int) e b x y:=rfl
    have hmul : c0 * 10 ^ (z + 1) = c0 * 10 ^ z * 10:=by rw [Nat.pow_succ,Nat.mul_assoc]
    have e1 : ((((c0 * 10 ^ (z + 1) : Nat) : Int).tmod 10) == 0) = true:=by
      have : ((c0 * 10 ^ (z + 1) : Nat) : Int).tmod 10 = 0:=by
        rw [show (((c0 * 10 ^ (z + 1) : Nat) : Int).tmod 10) = ((c0 * 10 ^ (z + 1) % 10 : Nat) : Int) from rfl]; omega
      simpa using this
    have e2 : ((c0 * 10 ^ (z + 1) : Nat) : Int).tdiv 10 = ((c0 * 10 ^ z : Nat) : Int):=by
      rw [show (((c0 * 10 ^ (z + 1) : Nat) : Int).tdiv 10) = ((c0 * 10 ^ (z + 1) / 10 : Nat) : Int) from rfl]; omega
    rw [hstep]
    unfold F.zg.L3.step
    rw [e1,cond_true]
    by_cases h18 : e < 18
    · rw [zd h18,e2,IntWalk.u64_in _ (by rw [z8] at hc; omega),zq (by omega)]
      obtain ⟨j,j1,j2,j3,j4⟩:=ih m (e + 1) (by omega) (by omega) (by omega) (by omega)
      refine ⟨j,by omega,?_,?_,?_⟩
      · rw [j2]
        congr 1
        omega
      · rcases j3 with j3 | j3
        · exact Or.inl j3
        · exact Or.inr (by omega)
      · rcases j4 with j4 | j4
        · exact Or.inl (by omega)
        · exact Or.inl (by omega)
    · rw [ze h18]
      refine ⟨z + 1,Nat.le_refl _,?_,Or.inr (by omega),Or.inr rfl⟩
      congr 1
      omega
theorem zir (n : Nat) (X : Type) (k2 : Bool→Int→Int→Bool→Int→Int→Option X) (K : Int→Bool→Int→Int→Option X) (neg b : Bool) (x y : Int) : ∀ (m c d : Nat),0 < c→c < two64→two64 ≤ c * 10 ^ m→18 + (d : Int) ≤ 9223372036854775807 →
    F.zg.L5 n k2 (fun q _ _ _ u v w => K q u v w) (m + 1) neg (c : Int) (18 + (d : Int)) b x y = if c * 10 ^ d < two64 then k2 neg ((c * 10 ^ d : Nat) : Int) 18 b x y else K 10 false 0 0:=by
  intro m
  induction m with
  | zero => intro c d h1 h2 h3; rw [Nat.pow_zero,Nat.mul_one] at h3; omega
  | succ m ih =>
    intro c d h1 h2 h3 h4
    have hstep : F.zg.L5 n k2 (fun q _ _ _ u v w => K q u v w) (m + 1 + 1) neg (c : Int) (18 + (d : Int)) b x y = F.zg.L5.step n (F.zg.L5 n k2 (fun q _ _ _ u v w => K q u v w) (m + 1)) k2 (fun q _ _ _ u v w => K q u v w) neg (c : Int) (18 + (d : Int)) b x y:=rfl
    rw [hstep]
    unfold F.zg.L5.step
    cases d with
    | zero =>
      rw [ze (by omega),Nat.pow_zero,Nat.mul_one,if_pos h2]
      rfl
    | succ d =>
      rw [zd (by omega),show (0 : Int) = ((0 : Nat) : Int) from rfl,ztr n c 0 h2 (by decide),za]
      have hp : c * 10 ≤ c * 10 ^ (d + 1):=by
        rw [Nat.pow_succ,← Nat.mul_assoc]
        have : 0 < 10 ^ d:=Nat.pow_pos (by omega)
        have:=Nat.le_mul_of_pos_right c this
        omega
      by_cases hf : c * 10 + 0 < two64
      · simp only [hf,decide_true,Bool.not_true,cond_false]
        rw [zq (by omega),show (18 + ((d + 1 : Nat) : Int) - 1) = 18 + (d : Int) from by omega,Nat.mod_eq_of_lt hf]
        have:=ih (c * 10 + 0) d (by omega) hf (by rw [Nat.pow_succ] at h3; rw [Nat.add_zero,Nat.mul_assoc,Nat.mul_comm 10]; exact h3) (by omega)
        rw [show ((0 : Nat) : Int) = (0 : Int) from rfl] at *
        rw [this,Nat.add_zero,Nat.mul_assoc,Nat.mul_comm 10,← Nat.pow_succ]
      · have : ¬ c * 10 ^ (d + 1) < two64:=by omega
        simp only [hf,decide_false,Bool.not_false,cond_true]
        rw [if_neg this]
theorem zmd (n : Nat) (hn : 100 ≤ n) (neg : Bool) (c0 z : Nat) (h0 : c0 % 10 ≠ 0) (hc : c0 * 10 ^ z < two64) (e : Int) (he : -9223372036854775808 ≤ e ∧ e ≤ 9223372036854775807) :
    F.zg n (neg,((c0 * 10 ^ z : Nat) : Int),e,()) = some (normR neg c0 (e + z)):=by
  have hz : z ≤ 20:=by
    refine Classical.byContradiction fun hh => ?_
    have h1 : 10 ^ 20 ≤ 10 ^ z:=Nat.pow_le_pow_right (by omega) (by omega)
    have h2:=Nat.le_mul_of_pos_left (10 ^ z) (show 0 < c0 by omega)
    rw [z8] at hc
    omega
  have hpos : 0 < c0 * 10 ^ z:=Nat.mul_pos (by omega) (Nat.pow_pos (by omega))
  unfold F.zg
  have e0 : (((c0 * 10 ^ z : Nat) : Int) == 0) = false:=by
    have : ¬ ((c0 * 10 ^ z : Nat) : Int) = 0:=by omega
    simpa using this
  simp only [e0,cond_false]
  by_cases hbig : 9223372036854775807 < e + z
  ·
    have h18 : ¬ e < 18:=by omega
    obtain ⟨m,rfl⟩ : ∃ q,n = q + 1:=⟨n - 1,by omega⟩
    have hs : ∀ (k0 : Bool→Int→Int→Bool→Int→Int→Option DecR),F.zg.L3 (m + 1) k0 (m + 1) neg ((c0 * 10 ^ z : Nat) : Int) e false 0 0 = k0 neg ((c0 * 10 ^ z : Nat) : Int) e false 0 0:=by
      intro k0
      show F.zg.L3.step (m + 1) (F.zg.L3 (m + 1) k0 m) k0 _ _ _ _ _ _ = _
      unfold F.zg.L3.step
      rw [ze h18]
      cases (((c0 * 10 ^ z : Nat) : Int).tmod 10 == 0) <;> rfl
    rw [hs]
    obtain ⟨d,hd⟩ : ∃ d : Nat,e = 18 + (d : Int):=⟨(e - 18).toNat,by omega⟩
    have hfuel : two64 ≤ c0 * 10 ^ z * 10 ^ m:=by
      have h1 : 10 ^ 20 ≤ 10 ^ m:=Nat.pow_le_pow_right (by omega) (by omega)
      have h2:=Nat.le_mul_of_pos_left (10 ^ m) hpos
      rw [z8]
      omega
    rw [hd,zir (m + 1) _ _ (fun q u v w => some ((u,v,w,()),q,())) neg false 0 0 m _ d hpos hc hfuel (by omega)]
    have hnot : ∀ w,20 ≤ w→¬ c0 * 10 ^ w < two64:=by
      intro w hw
      have h1 : 10 ^ 20 ≤ 10 ^ w:=Nat.pow_le_pow_right (by omega) hw
      have h2:=Nat.le_mul_of_pos_left (10 ^ w) (show 0 < c0 by omega)
      rw [z8]
      omega
    unfold normR
    rw [if_neg (show ¬ 18 + (d : Int) + z < -18 by omega),if_neg (by rw [Nat.mul_assoc,← Nat.pow_add]; exact hnot _ (by omega)),if_neg (hnot _ (by omega))]
  · obtain ⟨j,j1,j2,j3,j4⟩:=zoh n DecR (fun e1_b0_0 e1_b0_1 e1_b0_2 e1_b1_0 e1_b1_1 e1_b1_2 =>
        F.zg.L5 n
          (fun e3_b0_0 e3_b0_1 e3_b0_2 e3_b1_0 e3_b1_1 e3_b1_2 =>
            bif decide (e3_b0_2 < (-18 : Int)) then
              some (((false,(0 : Int),(0 : Int),()),(10 : Int),()))
            else
              some (((e3_b0_0,e3_b0_1,e3_b0_2,()),(0 : Int),())))
          (fun e4_3 e4_b0_0 e4_b0_1 e4_b0_2 e4_b1_0 e4_b1_1 e4_b1_2 =>
            some (((e4_b1_0,e4_b1_1,e4_b1_2,()),e4_3,()))) n e1_b0_0 e1_b0_1 e1_b0_2 e1_b1_0 e1_b1_1 e1_b1_2) neg false 0 0 c0 h0 z n e hc he.1 (by omega) (by omega)
    refine j2.trans ?_
    have hcj : c0 * 10 ^ j < two64:=by
      have h1 : 10 ^ j ≤ 10 ^ z:=Nat.pow_le_pow_right (by omega) j1
      have:=Nat.mul_le_mul_left c0 h1
      omega
    have hposj : 0 < c0 * 10 ^ j:=Nat.mul_pos (by omega) (Nat.pow_pos (by omega))
    obtain ⟨m,rfl⟩ : ∃ q,n = q + 1:=⟨n - 1,by omega⟩
    by_cases hE : 18 ≤ e + z - j
    · obtain ⟨d,hd⟩ : ∃ d : Nat,e + z - j = 18 + (d : Int):=⟨(e + z - j - 18).toNat,by omega⟩
      have hfuel : two64 ≤ c0 * 10 ^ j * 10 ^ m:=by
        have h1 : 10 ^ 20 ≤ 10 ^ m:=Nat.pow_le_pow_right (by omega) (by omega)
        have h2:=Nat.le_mul_of_pos_left (10 ^ m) hposj
        rw [z8]
        omega
      show F.zg.L5 (m + 1) _ _ (m + 1) neg _ (e + z - j) false 0 0 = _
      rw [hd,zir (m + 1) _ _ (fun q u v w => some ((u,v,w,()),q,())) neg false 0 0 m _ d hposj hcj hfuel (by omega)]
      unfold normR
      rw [if_neg (show ¬ e + z < -18 by omega),Nat.mul_assoc,← Nat.pow_add,show j + d = (e + z - 18).toNat from by omega]
      by_cases hf : c0 * 10 ^ (e + z - 18).toNat < two64
      · rw [if_pos hf,if_pos hf,ze (by omega)]
        congr 3
        by_cases hh : e + z ≤ 18
        · rw [if_pos hh,show e + (z : Int) = 18 from by omega]
        · rw [if_neg hh]
      · rw [if_neg hf,if_neg hf]
    · have hj0 : j = 0:=by omega
      subst hj0
      have hlow : ∀ (k2 : Bool→Int→Int→Bool→Int→Int→Option DecR) (kr : Int→Bool→Int→Int→Bool→Int→Int→Option DecR) (c : Int) (E : Int),¬ E > 18→F.zg.L5 (m + 1) k2 kr (m + 1) neg c E false 0 0 = k2 neg c E false 0 0:=by
        intro k2 kr c E hE
        show F.zg.L5.step (m + 1) (F.zg.L5 (m + 1) k2 kr m) k2 kr neg c E false 0 0 = _
        unfold F.zg.L5.step
        rw [ze hE]
      rw [hlow _ _ _ _ (by omega)]
      unfold normR
      rw [Nat.pow_zero,Nat.mul_one,show (e + (z : Int) - 18).toNat = 0 from by omega,Nat.pow_zero,Nat.mul_one,show (e + (z : Int) - ((0 : Nat) : Int)) = e + z from by omega]
      by_cases h18 : e + z < -18
      · rw [zd h18,if_pos h18]
      · rw [ze h18,if_neg h18,if_pos (by rw [Nat.pow_zero,Nat.mul_one] at hcj; exact hcj),if_pos (by omega)]
theorem zis (n : Nat) (hn : 100 ≤ n) (neg : Bool) (c : Nat) (hc : c < two64) (e : Int) (he : -9223372036854775808 ≤ e ∧ e ≤ 9223372036854775807) : F.zg n (neg,(c : Int),e,()) = some (valR neg (Lib.decDigits c) e):=by
  by_cases h : c = 0
  · subst h
    unfold valR
    rw [if_pos (zc9 0)]
    rfl
  · obtain ⟨c0,z,h1,h2⟩:=ziq c (by omega)
    rw [zco (zbh c) h2 (by rw [zc9]; exact h1)]
    rw [h1] at hc ⊢
    exact zmd n hn neg c0 z h2 hc e he
end Go.AM
set_option linter.unusedVariables false
set_option linter.unusedSimpArgs false
namespace Go.AM
def lz (d : List UInt8) : List UInt8:=d.dropWhile (· == 48)
theorem zqk (d : List UInt8) : d = List.replicate (d.length - (lz d).length) 48 ++ lz d:=by
  induction d with
  | nil => rfl
  | cons b d ih =>
    unfold lz at ih ⊢
    by_cases h : b = 48
    · subst h
      have e : ((48 : UInt8) :: d).dropWhile (· == 48) = d.dropWhile (· == 48):=by simp [List.dropWhile_cons]
      have hl : (d.dropWhile (· == 48)).length ≤ d.length:=(List.dropWhile_sublist _).length_le
      rw [e,List.length_cons,show d.length + 1 - (d.dropWhile (· == 48)).length = (d.length - (d.dropWhile (· == 48)).length) + 1 from by omega,List.replicate_succ,List.cons_append,← ih]
    · have e : (b :: d).dropWhile (· == 48) = b :: d:=by simp [List.dropWhile_cons,h]
      rw [e]
      simp
theorem znf {d : List UInt8} {x : UInt8} (h : (lz d).head? = some x) : x ≠ 48:=by
  have:=List.head?_dropWhile_not (p:=fun b : UInt8 => b == 48) (l:=d)
  unfold lz at h
  rw [h] at this
  simpa using this
theorem zg5 (d : List UInt8) : val (lz d) = val d:=by
  conv => rhs; rw [zqk d]
  rw [zc8]
theorem zng {d : List UInt8} (h : Digs d) : Digs (lz d):=by
  rw [zqk d,zao] at h
  exact h.2
theorem zx8 (d : List UInt8) : (lz d).length ≤ d.length:=(List.dropWhile_sublist _).length_le
theorem zoi (x : UInt8) : ((x.toNat : Int) == 48) = decide (x = 48):=by
  by_cases h : x = 48
  · subst h; rfl
  · have : ¬ (x.toNat : Int) = 48:=fun hh => h (zc6 (by simp; omega))
    rw [beq_eq_false_iff_ne.2 this,decide_eq_false h]
theorem zts (a : List UInt8) (j : Nat) : idx (a ++ List.replicate (j + 1) (48 : UInt8)) (((a ++ List.replicate (j + 1) (48 : UInt8)).length : Int) - 1) = some 48 ∧ sub (a ++ List.replicate (j + 1) (48 : UInt8)) 0 (((a ++ List.replicate (j + 1) (48 : UInt8)).length : Int) - 1) = some (a ++ List.replicate j 48):=by
  rw [List.replicate_succ',← List.append_assoc]
  have hlen : (a ++ List.replicate j (48 : UInt8) ++ [48]).length = a.length + j + 1:=by simp; omega
  refine ⟨?_,?_⟩
  · rw [zdq (by omega),← List.getLast?_eq_getElem?]; simp
  · have:=zai (a ++ List.replicate j (48 : UInt8) ++ [48]) 0 (a.length + j) (by omega) (by rw [hlen]; omega)
    rw [hlen,show (((a.length + j + 1 : Nat) : Int) - 1) = ((a.length + j : Nat) : Int) from by omega]
    refine this.trans ?_
    rw [List.drop_zero,List.take_append_of_le_length (by simp),List.take_of_length_le (by simp)]
theorem ztt {a : List UInt8} (ha : a ≠ []) (hl : ∀ x,a.getLast? = some x→x ≠ 48) : ∃ x,idx a ((a.length : Int) - 1) = some x ∧ x ≠ 48:=by
  have hp : 0 < a.length:=List.length_pos_iff.2 ha
  rw [zdq hp,← List.getLast?_eq_getElem?]
  cases e : a.getLast? with
  | none => simp at e; exact absurd e ha
  | some x => exact ⟨x,rfl,hl x e⟩
theorem zql {d : List UInt8} (hd : Digs d) (hne : d ≠ []) (hh : ∀ x,d.head? = some x→x ≠ 48) : 10 ^ (d.length - 1) ≤ val d:=by
  cases d with
  | nil => exact absurd rfl hne
  | cons b d =>
    obtain ⟨h1,h2⟩:=zae.1 hd
    have h0 : dv b ≠ 0:=fun h0 => hh b rfl (zex h1 (b:=48) rfl h0)
    rw [zaf]
    have:=Nat.le_mul_of_pos_left (10 ^ d.length) (show 0 < dv b by omega)
    simp
    omega
end Go.AM
set_option linter.unusedVariables false
set_option linter.unusedSimpArgs false
namespace Go.AM
def p0 (s : List UInt8) : Nat:=if s.head? = some 45 then 1 else 0
end Go.AM
set_option linter.unusedVariables false
set_option linter.unusedSimpArgs false
namespace Go.AM
theorem zqm (neg : Bool) (d : List UInt8) (e : Int) : (valR neg d e).2.1 = 0 ∨ (valR neg d e).2.1 = 10 ∧ (valR neg d e).1 = (false,0,0,()):=by
  unfold valR zeroD normR
  by_cases h : val d = 0
  · rw [if_pos h]; exact Or.inl rfl
  · rw [if_neg h]
    split
    · exact Or.inr ⟨rfl,rfl⟩
    · split
      · exact Or.inl rfl
      · exact Or.inr ⟨rfl,rfl⟩
end Go.AM
set_option linter.unusedVariables false
set_option linter.unusedSimpArgs false
namespace Go.AM
end Go.AM
set_option linter.unusedVariables false
set_option linter.unusedSimpArgs false
namespace Go.AM
def checkR (neg : Bool) (c : Nat) (e : Int) : Int:=
  if c ≠ 0 ∧ (e < -18 ∨ e > 18) then 10 else if (valR neg (Lib.decDigits c) e).2.1 = 0 ∧ (valR neg (Lib.decDigits c) e).1 = (neg,(c : Int),e,()) then 0 else 21
theorem ztu (a b : DecD) : ((a.1 == b.1) && ((a.2.1 == b.2.1) && (a.2.2.1 == b.2.2.1))) = decide (a = b):=by
  obtain ⟨a1,a2,a3,_⟩:=a
  obtain ⟨b1,b2,b3,_⟩:=b
  by_cases h : (((a1,a2,a3,()) : DecD) = (b1,b2,b3,()))
  · have : a1 = b1 ∧ a2 = b2 ∧ a3 = b3:=by simpa using h
    rw [decide_eq_true h]
    simp [this]
  · rw [decide_eq_false h]
    have : ¬ (a1 = b1 ∧ a2 = b2 ∧ a3 = b3):=fun hh => h (by simp [hh])
    simp only [Bool.and_eq_false_iff,beq_eq_false_iff_ne]
    by_cases g1 : a1 = b1
    · by_cases g2 : a2 = b2
      · exact Or.inr (Or.inr fun g3 => this ⟨g1,g2,g3⟩)
      · exact Or.inr (Or.inl g2)
    · exact Or.inl g1
theorem zg6 (neg : Bool) (c : Nat) (e : Int) (r : DecR) (hr : r = valR neg (Lib.decDigits c) e) :
    (bif !(r.2.1 == (0 : Int)) then some ((21 : Int)) else bif !((r.1.1 == neg) && ((r.1.2.1 == (c : Int)) && (r.1.2.2.1 == e))) then some ((21 : Int)) else some ((0 : Int)))
     = some (if (valR neg (Lib.decDigits c) e).2.1 = 0 ∧ (valR neg (Lib.decDigits c) e).1 = (neg,(c : Int),e,()) then 0 else 21):=by
  subst hr
  have hb:=ztu (valR neg (Lib.decDigits c) e).1 (neg,(c : Int),e,())
  simp only at hb
  rw [hb]
  by_cases h1 : (valR neg (Lib.decDigits c) e).2.1 = 0
  · have e1 : ((valR neg (Lib.decDigits c) e).2.1 == 0) = true:=by simp [h1]
    rw [e1]
    by_cases h2 : (valR neg (Lib.decDigits c) e).1 = (neg,(c : Int),e,())
    · rw [decide_eq_true h2,if_pos ⟨h1,h2⟩]; rfl
    · rw [decide_eq_false h2,if_neg (fun h => h2 h.2)]; rfl
  · have e1 : ((valR neg (Lib.decDigits c) e).2.1 == 0) = false:=by simpa using h1
    rw [e1,if_neg (fun h => h1 h.1)]; rfl
theorem zkz (n : Nat) (hn : 100 ≤ n) (neg : Bool) (c : Nat) (hc : c < two64) (e : Int) (he : -9223372036854775808 ≤ e ∧ e ≤ 9223372036854775807) : F.zbe n (neg,(c : Int),e,()) = some (checkR neg c e):=by
  unfold F.zbe checkR
  simp only [zis n hn neg c hc e he,za]
  have T:=zg6 neg c e _ rfl
  by_cases h0 : c = 0
  · have e0 : (((c : Int)) == 0) = true:=by simp [h0]
    rw [e0,if_neg (fun h => h.1 h0)]
    exact T
  · have e0 : (((c : Int)) == 0) = false:=by simpa using h0
    rw [e0]
    simp only [Bool.not_false,cond_true]
    by_cases h1 : e < -18
    · rw [zd h1,if_pos ⟨h0,Or.inl h1⟩]
    · rw [ze h1]
      by_cases h2 : e > 18
      · rw [zd h2,if_pos ⟨h0,Or.inr h2⟩]
      · rw [ze h2,if_neg (by omega)]
        exact T
theorem zav {c : Nat} (hc : c < two64) : (Lib.decDigits c).length ≤ 20:=by rw [zby]; exact Lib.nDigits_le20 c hc
theorem za9 {neg : Bool} {c : Nat} {e : Int} (h : checkR neg c e = 0) : valR neg (Lib.decDigits c) e = ((neg,(c : Int),e,()),0,()) ∧ -18 ≤ e ∧ e ≤ 18:=by
  unfold checkR at h
  by_cases h1 : c ≠ 0 ∧ (e < -18 ∨ e > 18)
  · rw [if_pos h1] at h; cases h
  rw [if_neg h1] at h
  by_cases h2 : (valR neg (Lib.decDigits c) e).2.1 = 0 ∧ (valR neg (Lib.decDigits c) e).1 = (neg,(c : Int),e,())
  · have h3 : valR neg (Lib.decDigits c) e = ((neg,(c : Int),e,()),0,()):=by
      obtain ⟨a,b⟩:=h2
      generalize valR neg (Lib.decDigits c) e = r at a b ⊢
      obtain ⟨r1,r2,_⟩:=r
      simp only at a b
      rw [a,b]
    refine ⟨h3,?_⟩
    by_cases h0 : c = 0
    · subst h0
      unfold valR at h3
      rw [if_pos (zc9 0)] at h3
      have : (0 : Int) = e:=congrArg (fun r : DecR => r.1.2.2.1) h3
      omega
    · omega
  · rw [if_neg h2] at h; cases h
def sgn (neg : Bool) : List UInt8:=if neg then [45] else []
def wideW (c : Nat) (e : Int) : List UInt8:=List.replicate (1 - e - (Lib.decDigits c).length).toNat 48 ++ Lib.decDigits c
def textD (neg : Bool) (c : Nat) (e : Int) : List UInt8:=
  if 0 ≤ e then sgn neg ++ (Lib.decDigits c ++ List.replicate e.toNat 48)
  else sgn neg ++ ((wideW c e).take ((wideW c e).length - e.natAbs) ++ [46] ++ (wideW c e).drop ((wideW c e).length - e.natAbs))
theorem zme (k : Nat) : Lib.repeatL [48] k = List.replicate k 48:=by
  induction k with
  | zero => rfl
  | succ k ih => rw [Lib.repeatL,ih]; rfl
theorem zit (n : Nat) {k : Int} (h : 0 ≤ k ∧ k ≤ 100000) : O.repeat' n [48] k = some (List.replicate k.toNat 48):=by
  unfold O.repeat'
  have hb : (decide (0 ≤ k) && Nat.ble k.toNat big47 && Nat.ble (([48] : List UInt8).length * k.toNat) big47) = true:=by
    rw [Bool.and_eq_true,Bool.and_eq_true,Nat.ble_eq,Nat.ble_eq]
    unfold big47
    simp only [List.length_cons,List.length_nil]
    refine ⟨⟨by simp; omega,by omega⟩,by omega⟩
  rw [hb,cond_true,zme]
theorem ze0 (c : Nat) (hc : c < two64) (e : Int) (he : -18 ≤ e ∧ e < 0) : e.natAbs < (wideW c e).length ∧ (wideW c e).length ≤ 40 ∧ Digs (wideW c e):=by
  have:=zav hc
  unfold wideW
  refine ⟨?_,?_,zao.2 ⟨zga _,zbh c⟩⟩
  · simp; omega
  · simp; omega
theorem ztv (n : Nat) (hn : 200000 ≤ n) (neg : Bool) (c : Nat) (hc : c < two64) (e : Int) (he : -9223372036854775808 ≤ e ∧ e ≤ 9223372036854775807) : F.zbg n (neg,(c : Int),e,()) = some (if checkR neg c e = 0 then (textD neg c e,0,()) else ([],checkR neg c e,())):=by
  unfold F.zbg
  simp only [zkz n (by omega) neg c hc e he,za]
  by_cases h : checkR neg c e = 0
  · obtain ⟨h1,h2,h3⟩:=za9 h
    have hl:=zav hc
    rw [h,if_pos rfl]
    have e0 : (!((0 : Int) == 0)) = false:=rfl
    rw [e0,cond_false]
    have hf : O.futoa n (c : Int) 10 = some (Lib.decDigits c):=by
      unfold O.futoa
      have : (decide ((0 : Int) ≤ (c : Int)) && decide ((c : Int) < 18446744073709551616) && decide ((10 : Int) = 10)) = true:=by
        rw [z8] at hc
        simp; omega
      rw [this]; rfl
    rw [hf,za]
    unfold textD
    by_cases hE : 0 ≤ e
    · rw [zd hE,if_pos hE,zit n (by omega),za,zd (by rw [zl]; simp; omega)]
      cases neg
      · rfl
      · rw [cond_true,zd (by rw [zl]; simp; omega)]
        rfl
    · obtain ⟨w1,w2,w3⟩:=ze0 c hc e (by omega)
      have hmax : (if (IntKind.wrap .i64 ((IntKind.wrap .i64 ((1 : Int) - e)) - ((Lib.decDigits c).length : Int))) > (0 : Int) then (IntKind.wrap .i64 ((IntKind.wrap .i64 ((1 : Int) - e)) - ((Lib.decDigits c).length : Int))) else (0 : Int)) = (((1 - e - (Lib.decDigits c).length).toNat : Nat) : Int):=by
        rw [zq (x:=(1 : Int) - e) (by omega),zq (by omega)]
        split <;> omega
      have hwl : (List.replicate (1 - e - (Lib.decDigits c).length).toNat (48 : UInt8)).length + (Lib.decDigits c).length = (wideW c e).length:=by unfold wideW; simp
      rw [ze (by omega),if_neg hE,hmax,zit n (by omega),za,Int.toNat_natCast,zd (by rw [zl]; omega)]
      have hww : List.replicate (1 - e - (Lib.decDigits c).length).toNat (48 : UInt8) ++ Lib.decDigits c = wideW c e:=rfl
      rw [hww]
      generalize wideW c e = w at w1 w2 w3
      have hat : IntKind.wrap .i64 ((w.length : Int) + e) = ((w.length - e.natAbs : Nat) : Int):=by rw [zq (by omega)]; omega
      rw [hat]
      have s1 : sub w 0 ((w.length - e.natAbs : Nat) : Int) = some (w.take (w.length - e.natAbs)):=by
        have:=zai w 0 (w.length - e.natAbs) (by omega) (by omega)
        rw [List.drop_zero] at this
        exact this
      have s2 : sub w ((w.length - e.natAbs : Nat) : Int) (w.length : Int) = some (w.drop (w.length - e.natAbs)):=by
        have:=zai w (w.length - e.natAbs) w.length (by omega) (Nat.le_refl _)
        rw [List.take_length] at this
        exact this
      rw [s1,za,zd (by rw [zl]; simp; omega),s2,za,zd (by rw [zl]; simp; omega)]
      cases neg
      · rfl
      · rw [cond_true,zd (by rw [zl]; simp; omega)]
        rfl
  · have e0 : (checkR neg c e == 0) = false:=by simpa using h
    rw [e0,if_neg h]
    rfl
theorem ztw (neg : Bool) (c : Nat) (hc : c < two64) (e : Int) (he : -18 ≤ e ∧ e ≤ 18) : (textD neg c e).length ≤ 39 ∧ (0 ≤ e ∨ e < 0):=by
  have hl:=zav hc
  have hs : (sgn neg).length ≤ 1:=by cases neg <;> decide
  refine ⟨?_,by omega⟩
  unfold textD
  by_cases h : 0 ≤ e
  · rw [if_pos h]; simp; omega
  · rw [if_neg h]
    obtain ⟨w1,w2,w3⟩:=ze0 c hc e (by omega)
    have : (wideW c e).length ≤ 20 ∨ (wideW c e).length = (1 - e).toNat:=by unfold wideW; simp; omega
    simp
    omega
end Go.AM
set_option linter.unusedVariables false
set_option linter.unusedSimpArgs false
namespace Go.AM
theorem zgd {α : Type} (b : Bool) (u v : α) : (bif b then some u else some v) = some (bif b then u else v):=by cases b <;> rfl
def btw (x lo hi : Int) : Bool:=decide (lo ≤ x) && decide (x ≤ hi)
def wordI (x : Int) : Bool:=btw x 65 90 || (btw x 97 122 || (x == 95 || (x == 46 || (x == 45 || btw x 48 57))))
def cls (c : Int) (b : UInt8) : Bool:=
  bif c == 3 then btw b.toNat 33 126 && (!((b.toNat : Int) == 44) && !((b.toNat : Int) == 124))
  else bif c == 2 then ((b.toNat : Int) == 47) || wordI b.toNat
  else bif c == 1 then wordI b.toNat
  else (c == 4) && btw b.toNat 48 57
def may (c : Int) : Bool:=decide (1 ≤ c) && decide (c ≤ 4)
theorem zw4 (n : Nat) (c : Int) : F.zcf n c = some (may c):=by
  unfold F.zcf may
  by_cases h : 1 ≤ c
  · rw [zd (by omega)]; simp [h]
  · rw [ze (by omega)]; simp [h]
theorem zoj (n : Nat) (x lo hi : Int) : F.zal n x lo hi = some (btw x lo hi):=by
  unfold F.zal btw
  by_cases h : lo ≤ x
  · rw [zd (by omega)]; simp [h]
  · rw [ze (by omega)]; simp [h]
theorem zx9 (n : Nat) (c : Int) (b : UInt8) : F.zcj n c (b.toNat) = some (cls c b):=by
  unfold F.zcj cls wordI
  simp only [zoj,za,zgd]
  congr 1
  cases c == 3 <;> cases c == 2 <;> cases c == 1 <;> cases c == 4 <;> generalize hx : (b.toNat : Int) = x <;> clear hx <;>
    (cases btw x 33 126 <;> cases x == 44 <;> cases btw x 65 90 <;> cases btw x 97 122 <;> cases x == 95 <;> cases x == 46 <;> cases x == 45 <;> cases x == 47 <;> rfl)
def badK (p : UInt8→Bool) : Nat→List UInt8→Int
  | _,[] => -1
  | k,b :: l => if p b then badK p (k + 1) l else (k : Int)
theorem zda (p : UInt8→Bool) (k : Nat) (l : List UInt8) : 0 ≤ badK p k l ↔ ¬ l.all p = true:=by
  induction l generalizing k with
  | nil => simp [badK]
  | cons b l ih =>
    unfold badK
    by_cases h : p b = true
    · rw [if_pos h,ih]; simp [h]
    · rw [if_neg h]; simp [h]
theorem zk0 (p : UInt8→Bool) (k : Nat) (l : List UInt8) (h : l.all p = true) : badK p k l = -1:=by
  induction l generalizing k with
  | nil => rfl
  | cons b l ih =>
    simp only [List.all_cons,Bool.and_eq_true] at h
    unfold badK
    rw [if_pos h.1,ih _ h.2]
theorem zk1 (n : Nat) (X : Type) (k0 : Unit→Option X) (kr : Int→Int→Option X) (c : Int) (s : List UInt8) (hs : s.length < 4611686018427387904) : ∀ (r : List UInt8) (k m : Nat),s.drop k = r→r.length < m →
    F.zan.L4 n k0 kr m c s (s.length : Int) (k : Int) = if 0 ≤ badK (cls c) k r then kr (badK (cls c) k r) 0 else k0 ():=by
  intro r
  induction r with
  | nil =>
    intro k m hk hm
    have:=zj hk
    cases m with
    | zero => simp at hm
    | succ m =>
      show F.zan.L4.step n _ k0 kr c s _ k = _
      unfold F.zan.L4.step
      rw [ze (by omega)]
      rfl
  | cons x r ih =>
    intro k m hk hm
    obtain ⟨h1,h2,h3⟩:=zi hk
    cases m with
    | zero => simp at hm
    | succ m =>
      show F.zan.L4.step n (F.zan.L4 n k0 kr m) k0 kr c s _ k = _
      unfold F.zan.L4.step
      rw [zd (by omega),zk,h2,za,zx9,za]
      unfold badK
      by_cases hx : cls c x = true
      · rw [hx,if_pos rfl,zh (by omega),ih (k + 1) m h3 (by simp at hm; omega)]
        rfl
      · have hx : cls c x = false:=by simpa using hx
        rw [hx]
        have : ¬ (false = true):=by simp
        rw [if_neg this,if_pos (by omega)]
        rfl
theorem zw5 (n : Nat) (c : Int) (s : List UInt8) (hs : s.length < 4611686018427387904) (hn : s.length < n) : F.zan n c s = some (bif may c then (badK (cls c) 0 s,0,()) else (0,1,())):=by
  unfold F.zan
  rw [zw4,za]
  cases hm : may c
  · rfl
  · simp only [Bool.not_true,cond_false]
    refine (zk1 n _ _ _ c s hs s 0 n rfl hn).trans ?_
    by_cases h : 0 ≤ badK (cls c) 0 s
    · rw [if_pos h]; rfl
    · rw [if_neg h]
      have : s.all (cls c) = true:=Classical.byContradiction fun hh => h ((zda _ _ _).2 hh)
      rw [zk0 _ _ _ this]; rfl
def textF (c : Int) (s : List UInt8) (lo hi : Int) : Int × Int × Unit:=
  if may c = false ∨ lo < 0 ∨ hi < lo then (1,0,()) else if (s.length : Int) < lo then (13,(s.length : Int),()) else if (s.length : Int) > hi then (12,hi,())
  else if 0 ≤ badK (cls c) 0 s then (14,badK (cls c) 0 s,()) else (0,0,())
theorem zge (n : Nat) (c : Int) (s : List UInt8) (lo hi : Int) (hs : s.length < 4611686018427387904) (hn : s.length < n) : F.zbf n c s lo hi = some (textF c s lo hi):=by
  unfold F.zbf textF
  rw [zw5 n c s hs hn,za]
  cases hm : may c
  · rw [if_pos (Or.inl rfl)]; rfl
  · simp only [cond_true]
    have e : (!((0 : Int) == 0)) = false:=rfl
    rw [e,cond_false]
    by_cases h1 : lo < 0
    · rw [zd h1,if_pos (Or.inr (Or.inl h1))]
    · rw [ze h1]
      by_cases h2 : hi < lo
      · rw [zd h2,if_pos (Or.inr (Or.inr h2))]
      · rw [ze h2,if_neg (by simp [h1,h2])]
        by_cases h3 : (s.length : Int) < lo
        · rw [zd h3,if_pos h3]
        · rw [ze h3,if_neg h3]
          by_cases h4 : (s.length : Int) > hi
          · rw [zd h4,if_pos h4]
          · rw [ze h4,if_neg h4]
            by_cases h5 : 0 ≤ badK (cls c) 0 s
            · rw [zd (by omega),if_pos h5]
            · rw [ze (by omega),if_neg h5]
def bytesOf (c : Int) : List UInt8:=
  bif c == 1 then [65,66,67,68,69,70,71,72,73,74,75,76,77,78,79,80,81,82,83,84,85,86,87,88,89,90,97,98,99,100,101,102,103,104,105,106,107,108,109,110,111,112,113,114,115,116,117,118,119,120,121,122,48,49,50,51,52,53,54,55,56,57,95,46,45]
  else bif c == 2 then [65,66,67,68,69,70,71,72,73,74,75,76,77,78,79,80,81,82,83,84,85,86,87,88,89,90,97,98,99,100,101,102,103,104,105,106,107,108,109,110,111,112,113,114,115,116,117,118,119,120,121,122,48,49,50,51,52,53,54,55,56,57,95,46,45,47]
  else bif c == 3 then [65,66,67,68,69,70,71,72,73,74,75,76,77,78,79,80,81,82,83,84,85,86,87,88,89,90,97,98,99,100,101,102,103,104,105,106,107,108,109,110,111,112,113,114,115,116,117,118,119,120,121,122,48,49,50,51,52,53,54,55,56,57,95,46,45,47,33,34,35,36,37,38,39,40,41,42,43,58,59,60,61,62,63,64,91,92,93,94,96,123,125,126]
  else bif c == 4 then [48,49,50,51,52,53,54,55,56,57] else []
theorem zqn (n : Nat) (c : Int) : F.zbv n c = some (bytesOf c):=by
  unfold F.zbv bytesOf
  rw [zd (by decide),zd (by decide),zd (by decide),zd (by decide)]
  cases c == 1 <;> cases c == 2 <;> cases c == 3 <;> cases c == 4 <;> rfl
theorem zmf (n : Nat) (X : Type) (k0 : Unit→Option X) (kr : Bool→Option X) (x : UInt8) (s : List UInt8) (hs : s.length < 4611686018427387904) : ∀ (r : List UInt8) (k m : Nat),s.drop k = r→r.length < m →
    F.zat.L3 n k0 kr m (x.toNat : Int) s (k : Int) = if x ∈ r then kr true else k0 ():=by
  intro r
  induction r with
  | nil =>
    intro k m hk hm
    have:=zj hk
    cases m with
    | zero => simp at hm
    | succ m =>
      show F.zat.L3.step n _ k0 kr _ s k = _
      unfold F.zat.L3.step
      rw [ze (by omega)]
      simp
  | cons y r ih =>
    intro k m hk hm
    obtain ⟨h1,h2,h3⟩:=zi hk
    cases m with
    | zero => simp at hm
    | succ m =>
      show F.zat.L3.step n (F.zat.L3 n k0 kr m) k0 kr _ s k = _
      unfold F.zat.L3.step
      rw [zd (by omega),zk,h2,za]
      by_cases hx : x = y
      · subst hx; simp
      · have : ¬ (y.toNat : Int) = (x.toNat : Int):=fun h => hx (zc6 (by omega)).symm
        have e : ((y.toNat : Int) == (x.toNat : Int)) = false:=by simpa using this
        rw [e,cond_false,zh (by omega),ih (k + 1) m h3 (by simp at hm; omega)]
        simp [hx]
theorem zmg : ∀ i : Fin 256,(UInt8.ofNat i.val ∈ bytesOf 1 ↔ cls 1 (UInt8.ofNat i.val) = true) ∧ (UInt8.ofNat i.val ∈ bytesOf 2 ↔ cls 2 (UInt8.ofNat i.val) = true) ∧ (UInt8.ofNat i.val ∈ bytesOf 3 ↔ cls 3 (UInt8.ofNat i.val) = true) ∧ (UInt8.ofNat i.val ∈ bytesOf 4 ↔ cls 4 (UInt8.ofNat i.val) = true):=by decide +kernel
theorem znh (c : Int) (b : UInt8) : b ∈ bytesOf c ↔ cls c b = true:=by
  have h:=zmg ⟨b.toNat,b.toNat_lt⟩
  have e : UInt8.ofNat b.toNat = b:=by simp
  simp only [e] at h
  by_cases h1 : c = 1
  · subst h1; exact h.1
  by_cases h2 : c = 2
  · subst h2; exact h.2.1
  by_cases h3 : c = 3
  · subst h3; exact h.2.2.1
  by_cases h4 : c = 4
  · subst h4; exact h.2.2.2
  have b1 : (c == 1) = false:=by simp [h1]
  have b2 : (c == 2) = false:=by simp [h2]
  have b3 : (c == 3) = false:=by simp [h3]
  have b4 : (c == 4) = false:=by simp [h4]
  unfold bytesOf cls
  rw [b1,b2,b3,b4]
  simp
theorem zx4 (n : Nat) (hn : 100 ≤ n) (c : Int) (x : UInt8) : F.zat n c (x.toNat : Int) = some (cls c x):=by
  unfold F.zat
  rw [zqn,za]
  have hl : (bytesOf c).length < 100:=by
    unfold bytesOf
    cases c == 1 <;> cases c == 2 <;> cases c == 3 <;> cases c == 4 <;> decide
  refine (zmf n _ _ _ x (bytesOf c) (by omega) (bytesOf c) 0 n rfl (by omega)).trans ?_
  by_cases h : x ∈ bytesOf c
  · rw [if_pos h,(znh c x).1 h]
  · rw [if_neg h]
    cases e : cls c x
    · rfl
    · exact absurd ((znh c x).2 e) h
theorem zk2 (n : Nat) (hn : 100 ≤ n) (X : Type) (k0 : Unit→Option X) (kr : Int→Option X) (c : Int) (s : List UInt8) (hs : s.length < 4611686018427387904) : ∀ (r : List UInt8) (k m : Nat),s.drop k = r→r.length < m →
    F.zap.L2 n k0 kr m c s (k : Int) = if 0 ≤ badK (cls c) k r then kr (badK (cls c) k r) else k0 ():=by
  intro r
  induction r with
  | nil =>
    intro k m hk hm
    have:=zj hk
    cases m with
    | zero => simp at hm
    | succ m =>
      show F.zap.L2.step n _ k0 kr c s k = _
      unfold F.zap.L2.step
      rw [ze (by omega)]
      rfl
  | cons x r ih =>
    intro k m hk hm
    obtain ⟨h1,h2,h3⟩:=zi hk
    cases m with
    | zero => simp at hm
    | succ m =>
      show F.zap.L2.step n (F.zap.L2 n k0 kr m) k0 kr c s k = _
      unfold F.zap.L2.step
      rw [zd (by omega),zk,h2,za,zx4 n hn,za]
      unfold badK
      by_cases hx : cls c x = true
      · rw [hx,if_pos rfl,zh (by omega),ih (k + 1) m h3 (by simp at hm; omega)]
        rfl
      · have hx : cls c x = false:=by simpa using hx
        rw [hx]
        have : ¬ (false = true):=by simp
        rw [if_neg this,if_pos (by omega)]
        rfl
theorem zw6 (n : Nat) (h100 : 100 ≤ n) (c : Int) (s : List UInt8) (hs : s.length < 4611686018427387904) (hn : s.length < n) : F.zap n c s = some (badK (cls c) 0 s):=by
  unfold F.zap
  refine (zk2 n h100 _ _ _ c s hs s 0 n rfl hn).trans ?_
  by_cases h : 0 ≤ badK (cls c) 0 s
  · rw [if_pos h]
  · rw [if_neg h]
    have : s.all (cls c) = true:=Classical.byContradiction fun hh => h ((zda _ _ _).2 hh)
    rw [zk0 _ _ _ this]
end Go.AM
set_option linter.unusedVariables false
set_option linter.unusedSimpArgs false
namespace Go.AM
theorem ztx {c : Int} {s : List UInt8} {lo hi : Int} (h : (textF c s lo hi).1 = 0) : (textF c s lo hi).2.1 = 0:=by
  unfold textF at h ⊢
  by_cases h1 : may c = false ∨ lo < 0 ∨ hi < lo
  · rw [if_pos h1]
  rw [if_neg h1] at h ⊢
  by_cases h2 : (s.length : Int) < lo
  · rw [if_pos h2] at h; cases h
  rw [if_neg h2] at h ⊢
  by_cases h3 : (s.length : Int) > hi
  · rw [if_pos h3] at h; cases h
  rw [if_neg h3] at h ⊢
  by_cases h4 : 0 ≤ badK (cls c) 0 s
  · rw [if_pos h4] at h; cases h
  rw [if_neg h4]
abbrev MetD:=List UInt8 × Int × List (Bool × Int × Int) × Int × List (List UInt8 × List UInt8) × Int × Unit
end Go.AM
set_option linter.unusedVariables false
set_option linter.unusedSimpArgs false
namespace Go.AM
theorem zmh (n : Nat) : ∀ (m u : Nat),u < 18446744073709551616→Lib.nDigits u ≤ m→F.zad.go n m (u : Int) = some (Lib.decDigits u):=by
  intro m
  induction m with
  | zero =>
    intro u _ h
    have:=Lib.nDigits_pos u
    omega
  | succ m ih =>
    intro u hu h
    have one : ∀ d : Nat,d < 10→sub ([48,49,50,51,52,53,54,55,56,57] : List UInt8) (d : Int) ((d + 1 : Nat) : Int) = some [UInt8.ofNat (48 + d)]:=by
      intro d hd
      rw [zai _ _ _ (by omega) (by simp; omega)]
      have:=(by decide : ∀ d : Fin 10,(([48,49,50,51,52,53,54,55,56,57] : List UInt8).take (d.val + 1)).drop d.val = [UInt8.ofNat (48 + d.val)]) ⟨d,hd⟩
      rw [this]
    show (bif decide ((u : Int) < 10) then _ else _) = _
    by_cases h1 : u < 10
    · rw [zd (by omega),show IntKind.wrap .u64 ((u : Int) + 1) = ((u + 1 : Nat) : Int) from by rw [IntWalk.u64_in _ (by omega)]; omega,one u h1,za,zcd h1]
    · rw [ze (by omega)]
      have e1 : (u : Int).tdiv 10 = ((u / 10 : Nat) : Int):=rfl
      have e2 : (u : Int).tmod 10 = ((u % 10 : Nat) : Int):=rfl
      have hN:=Lib.nDigits_big h1
      rw [e1,e2,IntWalk.u64_in _ (by omega),ih (u / 10) (by omega) (by omega),za,show IntKind.wrap .u64 (((u % 10 : Nat) : Int) + 1) = ((u % 10 + 1 : Nat) : Int) from by rw [IntWalk.u64_in _ (by omega)]; omega,one (u % 10) (by omega),za,zg4 h1,zd]
      have:=Lib.nDigits_le20 (u / 10) (by omega)
      rw [zby,zl]
      simp; omega
theorem digits03 (n : Nat) (hn : 20 ≤ n) (u : Nat) (hu : u < two64) : F.zad n (u : Int) = some (Lib.decDigits u):=by
  unfold F.zad
  exact zmh n n u hu (Nat.le_trans (Lib.nDigits_le20 u hu) hn)
theorem zqo (n : Nat) (X : Type) (k0 : Bool→(List UInt8)→Int→Bool→Int→Int→Option X) (neg b : Bool) (e x y : Int) : ∀ (d : List UInt8) (m : Nat),d.length < m→d.length < 4611686018427387904→F.ze.L1 n k0 m neg d e b x y = k0 neg (lz d) e b x y:=by
  intro d
  induction d with
  | nil =>
    intro m hm _
    obtain ⟨m,rfl⟩ : ∃ q,m = q + 1:=⟨m - 1,by omega⟩
    rfl
  | cons c d ih =>
    intro m hm hl
    obtain ⟨m,rfl⟩ : ∃ q,m = q + 1:=⟨m - 1,by omega⟩
    show F.ze.L1.step n (F.ze.L1 n k0 m) k0 neg (c :: d) e b x y = _
    unfold F.ze.L1.step
    have ei : idx (c :: d) (0 : Int) = some c:=rfl
    rw [zd (by simp),ei,za,zoi]
    have hsub : sub (c :: d) 1 (((c :: d).length : Nat) : Int) = some d:=by
      have:=zai (c :: d) 1 (c :: d).length (by simp) (by simp)
      rw [List.take_length] at this
      exact this
    by_cases h : c = 48
    · subst h
      rw [decide_eq_true rfl,cond_true,hsub,za,ih m (by simp at hm; omega) (by simp at hl; omega)]
      congr 1
    · rw [decide_eq_false h,cond_false]
      unfold lz
      have e' : (c :: d).dropWhile (· == 48) = c :: d:=by simp [List.dropWhile_cons,h]
      rw [e']
theorem zok (n : Nat) (X : Type) (k2 : Bool→(List UInt8)→Int→Bool→Int→Int→Option X) (neg b : Bool) (x y : Int) (a : List UInt8) (ha : a ≠ []) (hl : ∀ x,a.getLast? = some x→x ≠ 48) (hal : a.length ≤ 100000) : ∀ (z m : Nat) (e : Int),z < m→z ≤ 100000→-2000000 ≤ e→e ≤ 2000 →
    ∃ j,j ≤ z ∧ F.ze.L7 n k2 m neg (a ++ List.replicate z 48) e b x y = k2 neg (a ++ List.replicate j 48) (e + z - j) b x y ∧ (j = 0 ∨ 18 ≤ e + z - j) ∧ (e + z - j ≤ 18 ∨ j = z):=by
  intro z
  induction z with
  | zero =>
    intro m e hm hz he1 he2
    obtain ⟨m,rfl⟩ : ∃ q,m = q + 1:=⟨m - 1,by omega⟩
    refine ⟨0,Nat.le_refl _,?_,Or.inl rfl,Or.inr rfl⟩
    show F.ze.L7.step n _ k2 _ _ _ _ _ _ = _
    unfold F.ze.L7.step
    obtain ⟨c,c1,c2⟩:=ztt ha hl
    have hp : 0 < a.length:=List.length_pos_iff.2 ha
    have hw : IntKind.wrap .i64 ((a.length : Int) - 1) = (a.length : Int) - 1:=zq (by omega)
    rw [List.replicate_zero,List.append_nil,hw,c1,za,zoi,decide_eq_false c2,cond_false,show e + ((0 : Nat) : Int) - ((0 : Nat) : Int) = e from by omega]
    cases decide (e < 18) <;> rfl
  | succ z ih =>
    intro m e hm hz he1 he2
    obtain ⟨m,rfl⟩ : ∃ q,m = q + 1:=⟨m - 1,by omega⟩
    have hstep : F.ze.L7 n k2 (m + 1) neg (a ++ List.replicate (z + 1) 48) e b x y = F.ze.L7.step n (F.ze.L7 n k2 m) k2 neg (a ++ List.replicate (z + 1) 48) e b x y:=rfl
    rw [hstep]
    unfold F.ze.L7.step
    by_cases h18 : e < 18
    · obtain ⟨l1,l2⟩:=zts a z
      have hlen : (a ++ List.replicate (z + 1) (48 : UInt8)).length = a.length + z + 1:=by simp; omega
      have hw : IntKind.wrap .i64 (((a ++ List.replicate (z + 1) (48 : UInt8)).length : Int) - 1) = ((a ++ List.replicate (z + 1) (48 : UInt8)).length : Int) - 1:=zq (by omega)
      rw [zd h18,hw,l1,za,zoi,decide_eq_true rfl,cond_true,l2,za,zq (by omega)]
      obtain ⟨j,j1,j2,j3,j4⟩:=ih m (e + 1) (by omega) (by omega) (by omega) (by omega)
      refine ⟨j,by omega,?_,?_,?_⟩
      · rw [j2]
        congr 1
        omega
      · rcases j3 with j3 | j3
        · exact Or.inl j3
        · exact Or.inr (by omega)
      · exact Or.inl (by omega)
    · rw [ze h18]
      refine ⟨z + 1,Nat.le_refl _,?_,Or.inr (by omega),Or.inr rfl⟩
      congr 1
      omega
theorem zty (n : Nat) (X : Type) (k4 : Bool→(List UInt8)→Int→Bool→Int→Int→Option X) (neg b : Bool) (x y : Int) : ∀ (d m : Nat) (a : List UInt8),d < m→a.length + d ≤ 1000000→F.ze.L10 n k4 m neg a (18 + (d : Int)) b x y = k4 neg (a ++ List.replicate d 48) 18 b x y:=by
  intro d
  induction d with
  | zero =>
    intro m a hm hl
    obtain ⟨m,rfl⟩ : ∃ q,m = q + 1:=⟨m - 1,by omega⟩
    show F.ze.L10.step n _ k4 _ _ _ _ _ _ = _
    unfold F.ze.L10.step
    rw [ze (by omega),List.replicate_zero,List.append_nil]
    rfl
  | succ d ih =>
    intro m a hm hl
    obtain ⟨m,rfl⟩ : ∃ q,m = q + 1:=⟨m - 1,by omega⟩
    show F.ze.L10.step n (F.ze.L10 n k4 m) k4 _ _ _ _ _ _ = _
    unfold F.ze.L10.step
    rw [zd (by omega),zd (by rw [zl]; omega),zq (by omega),show 18 + ((d + 1 : Nat) : Int) - 1 = 18 + (d : Int) from by omega,ih m _ (by omega) (by simp; omega),List.append_assoc,List.replicate_succ]
    rfl
theorem zx5 (n : Nat) (X : Type) (k4 : Bool→(List UInt8)→Int→Bool→Int→Int→Option X) (neg b : Bool) (x y : Int) (m : Nat) (hm : 0 < m) (a : List UInt8) (E : Int) (h : ¬ E > 18) : F.ze.L10 n k4 m neg a E b x y = k4 neg a E b x y:=by
  obtain ⟨m,rfl⟩ : ∃ q,m = q + 1:=⟨m - 1,by omega⟩
  show F.ze.L10.step n (F.ze.L10 n k4 m) k4 _ _ _ _ _ _ = _
  unfold F.ze.L10.step
  rw [ze h]
theorem zw7 (n : Nat) {d : List UInt8} (hd : Digs d) (hne : d ≠ []) (hh : ∀ x,d.head? = some x→x ≠ 48) : F.zbh n d = some (decide (val d < two64)):=by
  unfold F.zbh
  have hlt:=zc7 hd
  have hge:=zql hd hne hh
  have hp : 0 < d.length:=List.length_pos_iff.2 hne
  rw [z8]
  by_cases h1 : d.length < 20
  · have : 10 ^ d.length ≤ 10 ^ 19:=Nat.pow_le_pow_right (by omega) (by omega)
    have h2 : val d < 18446744073709551616:=by omega
    rw [zd (by omega),decide_eq_true h2]
  rw [ze (by omega)]
  by_cases h2 : d.length = 20
  · have e : ((d.length : Int) == 20) = true:=by rw [h2]; rfl
    rw [e,cond_true]
    have hm : Digs [49,56,52,52,54,55,52,52,48,55,51,55,48,57,53,53,49,54,49,53]:=rfl
    have hv : val [49,56,52,52,54,55,52,52,48,55,51,55,48,57,53,53,49,54,49,53] = 18446744073709551615:=rfl
    rw [ztq hd hm h2,hv]
    congr 1
    by_cases h3 : val d < 18446744073709551615
    · simp [h3]; omega
    · by_cases h4 : val d = 18446744073709551615
      · have : d = [49,56,52,52,54,55,52,52,48,55,51,55,48,57,53,53,49,54,49,53]:=znd hd hm h2 (h4.trans hv.symm)
        rw [decide_eq_false h3,this,beq_self_eq_true,hv]
        rfl
      · have hne' : ¬ d = [49,56,52,52,54,55,52,52,48,55,51,55,48,57,53,53,49,54,49,53]:=fun hh => h4 (by rw [hh]; exact hv)
        rw [decide_eq_false h3,beq_eq_false_iff_ne.2 hne',decide_eq_false (show ¬ val d < 18446744073709551616 by omega)]
        rfl
  · have e : ((d.length : Int) == 20) = false:=by
      have : ¬ (d.length : Int) = 20:=by omega
      simpa using this
    have : 10 ^ 20 ≤ 10 ^ (d.length - 1):=Nat.pow_le_pow_right (by omega) (by omega)
    rw [e,cond_false,decide_eq_false (by omega)]
theorem zk3 (n : Nat) (X : Type) (k0 : Int→Option X) (s : List UInt8) (hs : s.length < 4611686018427387904) (hv : val s < two64) : ∀ (r : List UInt8) (k m : Nat),s.drop k = r→r.length < m→Digs r →
    F.zaa.L3 n k0 m s (val (s.take k) : Int) (k : Int) = k0 (val s):=by
  intro r
  induction r with
  | nil =>
    intro k m hk hm hd
    have hk:=zj hk
    obtain ⟨m,rfl⟩ : ∃ q,m = q + 1:=⟨m - 1,by omega⟩
    show F.zaa.L3.step n _ k0 s _ k = _
    unfold F.zaa.L3.step
    rw [ze (by omega),List.take_of_length_le hk]
  | cons x r ih =>
    intro k m hk hm hd
    obtain ⟨h1,h2,h3⟩:=zi hk
    obtain ⟨d1,d2⟩:=zae.1 hd
    have hx:=za8.1 d1
    obtain ⟨m,rfl⟩ : ∃ q,m = q + 1:=⟨m - 1,by omega⟩
    show F.zaa.L3.step n (F.zaa.L3 n k0 m) k0 s _ k = _
    unfold F.zaa.L3.step
    have htk : s.take (k + 1) = s.take k ++ [x]:=by rw [List.take_add_one,h2]; rfl
    have hvk : val (s.take (k + 1)) = val (s.take k) * 10 + dv x:=by rw [htk,zgb]
    have hsv : val (s.take (k + 1)) ≤ val s:=by
      have e : s = s.take (k + 1) ++ s.drop (k + 1):=(List.take_append_drop _ _).symm
      have h5 : val s = val (s.take (k + 1)) * 10 ^ (s.drop (k + 1)).length + val (s.drop (k + 1)):=by
        conv => lhs; rw [e]
        rw [zb5]
      have:=Nat.le_mul_of_pos_right (val (s.take (k + 1))) (Nat.pow_pos (n:=(s.drop (k + 1)).length) (show 0 < 10 by omega))
      omega
    have hdl:=zog d1
    rw [z8] at hv
    have hdx : IntKind.wrap .u64 (IntKind.wrap .u8 ((x.toNat : Int) - 48)) = (dv x : Int):=by
      have h8 : IntKind.wrap .u8 ((x.toNat : Int) - 48) = (x.toNat : Int) - 48:=IntWalk.u8_in _ (by omega)
      rw [h8,IntWalk.u64_in _ (by omega)]; unfold dv; omega
    rw [zd (by omega),zk,h2,za,hdx,IntWalk.u64_in (10 * (val (s.take k) : Int)) (by omega),IntWalk.u64_in _ (by omega),zh (by omega),show 10 * (val (s.take k) : Int) + (dv x : Int) = (val (s.take (k + 1)) : Int) from by omega]
    exact ih (k + 1) m h3 (by simp at hm; omega) d2
theorem value03 (n : Nat) (s : List UInt8) (hs : s.length < 4611686018427387904) (hn : s.length < n) (hd : Digs s) (hv : val s < two64) : F.zaa n s = some (val s : Int):=
  zk3 n _ _ s hs hv s 0 n rfl hn hd
theorem zni (n : Nat) (hn : 200000 ≤ n) (neg : Bool) (d : List UInt8) (hd : Digs d) (hl : d.length ≤ 10000) (e : Int) : F.ze n neg d e = some ((valR neg d e).1,(valR neg d e).2.1 == 0,()):=by
  unfold F.ze
  rw [zqo n _ _ neg false e 0 0 d n (by omega) (by omega)]
  have hlz:=zx8 d
  by_cases h0 : val d = 0
  · have : lz d = []:=by
      refine Classical.byContradiction fun hne => ?_
      have:=zql (zng hd) hne (fun x => znf)
      rw [zg5,h0] at this
      have:=Nat.pow_pos (n:=(lz d).length - 1) (show 0 < 10 by omega)
      omega
    unfold valR
    rw [if_pos h0,this]
    rfl
  have hne : lz d ≠ []:=fun hh => by have:=zg5 d; rw [hh] at this; exact h0 this.symm
  have e0 : (lz d == []) = false:=by simpa using hne
  simp only [e0,cond_false]
  have hD:=zng hd
  have hv0 : val (lz d) ≠ 0:=by rw [zg5]; exact h0
  have hcore:=zky hD hv0
  have hvt:=zne (lz d)
  generalize hzz : (lz d).length - (trz (lz d)).length = z at hvt
  have hR : valR neg d e = normR neg (val (trz (lz d))) (e + z):=zco hd hcore (by rw [← zg5]; exact hvt) neg e
  rw [hR]
  have hc0 : 0 < val (trz (lz d)):=by omega
  have hnot : ∀ w,20 ≤ w→¬ val (trz (lz d)) * 10 ^ w < two64:=by
    intro w hw
    have h1 : 10 ^ 20 ≤ 10 ^ w:=Nat.pow_le_pow_right (by omega) hw
    have h2:=Nat.le_mul_of_pos_left (10 ^ w) hc0
    rw [z8]
    omega
  by_cases hbig : e > 1000
  · rw [zd hbig]
    unfold normR
    rw [if_neg (by omega),if_neg (hnot _ (by omega))]
    rfl
  rw [ze hbig]
  by_cases hlow : e < -1000000
  · rw [zd hlow]
    unfold normR
    rw [if_pos (by omega)]
    rfl
  rw [ze hlow]
  have hpad:=zfh (lz d)
  rw [hzz] at hpad
  have hne' : trz (lz d) ≠ []:=fun hh => hv0 ((zhq hD).1 hh)
  have htl:=zez (lz d)
  have hhead : ∀ (k : Nat) x,(trz (lz d) ++ List.replicate k 48).head? = some x→x ≠ 48:=by
    intro k x hx
    cases e : trz (lz d) with
    | nil => exact absurd e hne'
    | cons b r =>
      rw [e] at hx
      have hb : b = x:=by simpa using hx
      refine znf (d:=d) ?_
      rw [hpad,e,← hb]; rfl
  have fin : ∀ (k : Nat) (E : Int),k ≤ 30000 →
      (bif decide (E < (-18 : Int)) then some (((false,(0 : Int),(0 : Int),()),false,()))
                else
                  (F.zbh n (trz (lz d) ++ List.replicate k 48)).bind fun y8 =>
                    bif !y8 then
                      some (((false,(0 : Int),(0 : Int),()),false,()))
                    else
                      (F.zaa n (trz (lz d) ++ List.replicate k 48)).bind fun y9 =>
                        some (((neg,y9,E,()),true,())))
      = some (if E < -18 then ((false,(0 : Int),(0 : Int),()),false,()) else if val (trz (lz d)) * 10 ^ k < two64 then ((neg,((val (trz (lz d)) * 10 ^ k : Nat) : Int),E,()),true,()) else ((false,(0 : Int),(0 : Int),()),false,())):=by
    intro k E hk
    by_cases hE : E < -18
    · rw [zd hE,if_pos hE]
    · rw [ze hE,if_neg hE]
      have hdk : Digs (trz (lz d) ++ List.replicate k 48):=zao.2 ⟨zkx hD,zga _⟩
      have hlk : (trz (lz d) ++ List.replicate k (48 : UInt8)).length = (trz (lz d)).length + k:=by simp
      rw [zw7 n hdk (by simp [hne']) (hhead k),za,za5]
      by_cases hf : val (trz (lz d)) * 10 ^ k < two64
      · rw [decide_eq_true hf,if_pos hf,value03 n _ (by omega) (by omega) hdk (by rw [za5]; exact hf),za,za5]
        rfl
      · rw [decide_eq_false hf,if_neg hf]; rfl
  obtain ⟨j,j1,j2,j3,j4⟩:=zok n (DecD × Bool × Unit) (fun e6_0 e6_1 e6_2 e6_b0_0 e6_b0_1 e6_b0_2 =>
            F.ze.L10 n
              (fun e7_0 e7_1 e7_2 e7_b0_0 e7_b0_1 e7_b0_2 =>
                bif decide (e7_2 < (-18 : Int)) then
                  some (((false,(0 : Int),(0 : Int),()),false,()))
                else
                  (F.zbh n e7_1).bind fun y8 =>
                    bif !y8 then
                      some (((false,(0 : Int),(0 : Int),()),false,()))
                    else
                      (F.zaa n e7_1).bind fun y9 =>
                        some (((e7_0,y9,e7_2,()),true,()))) n e6_0 e6_1 e6_2 e6_b0_0 e6_b0_1 e6_b0_2) neg false 0 0 (trz (lz d)) hne' (fun x => zgc) (by omega) z n e (by omega) (by omega) (by omega) (by omega)
  rw [← hpad] at j2
  refine j2.trans ?_
  unfold normR
  by_cases hE : e + z - j > 18
  · obtain ⟨q,hq⟩ : ∃ q : Nat,e + z - j = 18 + (q : Int):=⟨(e + z - j - 18).toNat,by omega⟩
    rw [hq,zty n _ _ neg false 0 0 q n _ (by omega) (by simp; omega),List.append_assoc,List.replicate_append_replicate,fin (j + q) 18 (by omega),if_neg (by omega),if_neg (show ¬ e + (z : Int) < -18 by omega),show (e + z - 18).toNat = j + q from by omega]
    by_cases hf : val (trz (lz d)) * 10 ^ (j + q) < two64
    · rw [if_pos hf,if_pos hf,if_neg (by omega)]; rfl
    · rw [if_neg hf,if_neg hf]; rfl
  · rw [zx5 n _ _ neg false 0 0 n (by omega) _ _ hE,fin j _ (by omega)]
    by_cases h18 : e + z < -18
    · rw [if_pos (by omega),if_pos h18]; rfl
    · rw [if_neg (by omega),if_neg h18,show (e + z - 18).toNat = j from by omega]
      by_cases hf : val (trz (lz d)) * 10 ^ j < two64
      · rw [if_pos hf,if_pos hf]
        congr 4
        by_cases hh : e + z ≤ 18
        · rw [if_pos hh]
          have : j = 0 ∨ e + z = 18:=by omega
          congr 1
          omega
        · rw [if_neg hh]
          congr 1
          omega
      · rw [if_neg hf,if_neg hf]; rfl
end Go.AM
set_option linter.unusedVariables false
set_option linter.unusedSimpArgs false
namespace Go.AM
end Go.AM
set_option linter.unusedVariables false
set_option linter.unusedSimpArgs false
namespace Go.AM
abbrev DecL:=Bool × Int × Int
abbrev TagL:=List UInt8 × List UInt8
def DecLOK (d : DecL) : Prop:=True ∧ (0 ≤ d.2.1 ∧ d.2.1 ≤ 18446744073709551615) ∧ -9223372036854775808 ≤ d.2.2 ∧ d.2.2 ≤ 9223372036854775807
def decC (d : DecL) : Int:=checkR d.1 d.2.1.toNat d.2.2
theorem zaw {d : DecL} (h : DecLOK d) : ∃ (neg : Bool) (c : Nat) (e : Int),d = (neg,(c : Int),e) ∧ c < two64 ∧ -9223372036854775808 ≤ e ∧ e ≤ 9223372036854775807:=by
  obtain ⟨neg,c,e⟩:=d
  obtain ⟨_,⟨h1,h2⟩,h3,h4⟩:=h
  simp only at h1 h2 h3 h4
  refine ⟨neg,c.toNat,e,?_,?_,h3,h4⟩
  · rw [show ((c.toNat : Nat) : Int) = c from by omega]
  · rw [z8]; omega
theorem zk4 (n : Nat) (hn : 100 ≤ n) {d : DecL} (h : DecLOK d) : F.zbe n (d.1,d.2.1,d.2.2,()) = some (decC d):=by
  obtain ⟨neg,c,e,rfl,hc,he⟩:=zaw h
  exact zkz n hn neg c hc e he
def nameOK (s : List UInt8) : Bool:=(textF 1 s 1 200).1 == 0
def tagGood (t : TagL) : Bool:=((textF 2 t.1 1 64).1 == 0) && ((textF 3 t.2 0 100).1 == 0)
theorem zds (c : Int) (s : List UInt8) (lo hi : Int) : (((textF c s lo hi).1 == 0) && ((textF c s lo hi).2.1 == 0)) = ((textF c s lo hi).1 == 0):=by
  by_cases h : (textF c s lo hi).1 = 0
  · rw [h,ztx h]; rfl
  · rw [beq_eq_false_iff_ne.2 h]; rfl
theorem ziu (n : Nat) (hn : 100 ≤ n) (c : Int) (s : List UInt8) (lo hi : Int) (hm : may c = true) (hlo : 0 ≤ lo) (hhi : lo ≤ hi) (hs : s.length < 4611686018427387904) (hl : s.length < n) : F.zbp n c s lo hi = some (textF c s lo hi):=by
  unfold F.zbp textF
  rw [zw6 n hn c s hs hl,za,if_neg (by simp [hm]; omega)]
  by_cases h3 : (s.length : Int) < lo
  · rw [zd h3,if_pos h3]
  · rw [ze h3,if_neg h3]
    by_cases h4 : (s.length : Int) > hi
    · rw [zd h4,if_pos h4]
    · rw [ze h4,if_neg h4]
      by_cases h5 : 0 ≤ badK (cls c) 0 s
      · rw [zd (by omega),if_pos h5]
      · rw [ze (by omega),if_neg h5]
def TagLOK (t : TagL) : Prop:=t.1.length ≤ 10000 ∧ t.2.length ≤ 10000
theorem znj (n : Nat) (hn : 200000 ≤ n) {t : TagL} (h : TagLOK t) : F.zb1 n (t.1,t.2,()) = some (bif tagGood t then 0 else 19):=by
  obtain ⟨h1,h2⟩:=h
  unfold F.zb1 tagGood
  simp only [zge n 2 t.1 1 64 (by omega) (by omega),zge n 3 t.2 0 100 (by omega) (by omega),za,zds]
  cases ((textF 2 t.1 1 64).1 == 0) <;> cases ((textF 3 t.2 0 100).1 == 0) <;> rfl
theorem zw8 (n : Nat) (hn : 200000 ≤ n) {t : TagL} (h : TagLOK t) : F.zbw n (t.1,t.2,()) = some (bif tagGood t then 0 else 19):=by
  obtain ⟨h1,h2⟩:=h
  unfold F.zbw F.zcd tagGood
  simp only [ziu n (by omega) 2 t.1 1 64 rfl (by omega) (by omega) (by omega) (by omega),ziu n (by omega) 3 t.2 0 100 rfl (by omega) (by omega) (by omega) (by omega),za,zds]
  cases ((textF 2 t.1 1 64).1 == 0) <;> cases ((textF 3 t.2 0 100).1 == 0) <;> rfl
def kindB (k : Int) : Bool:=decide (1 ≤ k) && decide (k ≤ 5)
def valsB (vs : List DecL) : Bool:=decide (1 ≤ vs.length) && (decide (vs.length ≤ 64) && vs.all fun d => decC d == 0)
def rateB (k r : Int) : Bool:=decide (1 ≤ r) && (decide (r ≤ 1000000) && (!(k == 2) || r == 1000000))
def tagsB (ts : List TagL) : Bool:=decide (ts.length ≤ 32) && ts.all tagGood
def timeB (t : Int) : Bool:=decide (0 ≤ t) && decide (t ≤ 1099511627776)
def chkM (m : MetD) : Int:=
  bif !nameOK m.1 then 15 else bif !kindB m.2.1 then 16 else bif !valsB m.2.2.1 then 17 else bif !rateB m.2.1 m.2.2.2.1 then 18 else bif !tagsB m.2.2.2.2.1 then 19 else bif !timeB m.2.2.2.2.2.1 then 20 else 0
def MetOK (m : MetD) : Prop:=m.1.length ≤ 10000 ∧ (m.2.2.1.length ≤ 10000 ∧ ∀ d ∈ m.2.2.1,DecLOK d) ∧ (m.2.2.2.2.1.length ≤ 10000 ∧ ∀ t ∈ m.2.2.2.2.1,TagLOK t)
theorem zqp (n : Nat) (hn : 200000 ≤ n) (k0 : List UInt8→Int→List DecL→Int→List TagL→Int→Option Bool) (kr : Int→List UInt8→Int→List DecL→Int→List TagL→Int→Option Bool) (h0 : ∀ a b c d e f,k0 a b c d e f = some true) (hr : ∀ i a b c d e f,0 ≤ i→kr i a b c d e f = some false) (vs : List DecL) (hs : vs.length ≤ 10000) (hok : ∀ d ∈ vs,DecLOK d) (b0 : List UInt8) (b1 : Int) (b2 : List DecL) (b3 : Int) (b4 : List TagL) (b5 : Int) : ∀ (r : List DecL) (k m : Nat),vs.drop k = r→r.length < m →
    F.zn.L2_slices_IndexFunc_api_Dec_api_Dec n k0 kr m vs (vs.length : Int) (k : Int) b0 b1 b2 b3 b4 b5 = some (r.all fun d => decC d == 0):=by
  intro r
  induction r with
  | nil =>
    intro k m hk hm
    have:=zj hk
    cases m with
    | zero => simp at hm
    | succ m =>
      show F.zn.L2_slices_IndexFunc_api_Dec_api_Dec.step n _ k0 kr vs _ _ _ _ _ _ _ _ = _
      unfold F.zn.L2_slices_IndexFunc_api_Dec_api_Dec.step
      rw [ze (by omega),h0]
      rfl
  | cons x r ih =>
    intro k m hk hm
    obtain ⟨h1,h2,h3⟩:=zi hk
    have hx : DecLOK x:=hok x (List.mem_of_getElem? h2)
    cases m with
    | zero => simp at hm
    | succ m =>
      show F.zn.L2_slices_IndexFunc_api_Dec_api_Dec.step n (F.zn.L2_slices_IndexFunc_api_Dec_api_Dec n k0 kr m) k0 kr vs _ _ _ _ _ _ _ _ = _
      unfold F.zn.L2_slices_IndexFunc_api_Dec_api_Dec.step F.za8
      rw [zd (by omega),zk,h2]
      simp only [za,zk4 n (by omega) hx,List.all_cons]
      by_cases h : decC x = 0
      · rw [h,zh (by omega),ih (k + 1) m h3 (by simp at hm; omega)]; rfl
      · rw [beq_eq_false_iff_ne.2 h]
        simp [hr]
theorem zqq (n : Nat) (hn : 200000 ≤ n) (k0 : List UInt8→Int→List DecL→Int→List TagL→Int→Option Bool) (kr : Int→List UInt8→Int→List DecL→Int→List TagL→Int→Option Bool) (h0 : ∀ a b c d e f,k0 a b c d e f = some true) (hr : ∀ i a b c d e f,0 ≤ i→kr i a b c d e f = some false) (vs : List TagL) (hs : vs.length ≤ 10000) (hok : ∀ d ∈ vs,TagLOK d) (b0 : List UInt8) (b1 : Int) (b2 : List DecL) (b3 : Int) (b4 : List TagL) (b5 : Int) : ∀ (r : List TagL) (k m : Nat),vs.drop k = r→r.length < m →
    F.zr.L2_slices_IndexFunc_api_Tag_api_Tag n k0 kr m vs (vs.length : Int) (k : Int) b0 b1 b2 b3 b4 b5 = some (r.all tagGood):=by
  intro r
  induction r with
  | nil =>
    intro k m hk hm
    have:=zj hk
    cases m with
    | zero => simp at hm
    | succ m =>
      show F.zr.L2_slices_IndexFunc_api_Tag_api_Tag.step n _ k0 kr vs _ _ _ _ _ _ _ _ = _
      unfold F.zr.L2_slices_IndexFunc_api_Tag_api_Tag.step
      rw [ze (by omega),h0]
      rfl
  | cons x r ih =>
    intro k m hk hm
    obtain ⟨h1,h2,h3⟩:=zi hk
    have hx : TagLOK x:=hok x (List.mem_of_getElem? h2)
    cases m with
    | zero => simp at hm
    | succ m =>
      show F.zr.L2_slices_IndexFunc_api_Tag_api_Tag.step n (F.zr.L2_slices_IndexFunc_api_Tag_api_Tag n k0 kr m) k0 kr vs _ _ _ _ _ _ _ _ = _
      unfold F.zr.L2_slices_IndexFunc_api_Tag_api_Tag.step F.zbb
      rw [zd (by omega),zk,h2]
      simp only [za,znj n hn hx,List.all_cons]
      cases h : tagGood x
      · simp [hr]
      · rw [zh (by omega),ih (k + 1) m h3 (by simp at hm; omega)]; rfl
theorem zbt (n : Nat) (x lo hi : Int) : F.zaz n x lo hi = some (decide (lo ≤ x) && decide (x ≤ hi)):=by
  unfold F.zaz
  by_cases h : lo ≤ x
  · rw [zd (by omega),decide_eq_true h]; rfl
  · rw [ze (by omega),decide_eq_false h]; rfl
theorem zqr (n : Nat) (m : MetD) (h : m.1.length ≤ 10000) (hn : 200000 ≤ n) : F.za1 n m = some (nameOK m.1):=by
  unfold F.za1 nameOK
  rw [zge n 1 m.1 1 200 (by omega) (by omega),za,zds]
theorem zqs (n : Nat) (m : MetD) : F.za2 n m = some (kindB m.2.1):=by
  unfold F.za2 kindB
  rw [zbt]; rfl
theorem zmi (n : Nat) (hn : 200000 ≤ n) (m : MetD) (hm : MetOK m) : F.zn n m = some (valsB m.2.2.1):=by
  unfold F.zn valsB
  have L:=zqp n hn (fun _ _ _ _ _ _ => some true) (fun e _ _ _ _ _ _ => some (!(decide (e ≥ (0 : Int))))) (fun _ _ _ _ _ _ => rfl) (fun i _ _ _ _ _ _ h => by simp [h]) _ hm.2.1.1 hm.2.1.2 m.1 m.2.1 m.2.2.1 m.2.2.2.1 m.2.2.2.2.1 m.2.2.2.2.2.1 m.2.2.1 0 n rfl (by have:=hm.2.1.1; omega)
  rw [show ((0 : Nat) : Int) = (0 : Int) from rfl] at L
  rw [zbt,za,L]
  have e1 : decide ((1 : Int) ≤ (m.2.2.1.length : Int)) = decide (1 ≤ m.2.2.1.length):=by apply decide_eq_decide.2; omega
  have e2 : decide ((m.2.2.1.length : Int) ≤ 64) = decide (m.2.2.1.length ≤ 64):=by apply decide_eq_decide.2; omega
  rw [e1,e2]
  cases decide (1 ≤ m.2.2.1.length) <;> cases decide (m.2.2.1.length ≤ 64) <;> rfl
theorem zqt (n : Nat) (m : MetD) : F.za3 n m = some (rateB m.2.1 m.2.2.2.1):=by
  unfold F.za3 rateB
  rw [zbt,za]
  cases decide ((1 : Int) ≤ m.2.2.2.1) <;> cases decide (m.2.2.2.1 ≤ 1000000) <;> cases (m.2.1 == 2) <;> rfl
theorem zqu (n : Nat) (hn : 200000 ≤ n) (m : MetD) (hm : MetOK m) : F.zr n m = some (tagsB m.2.2.2.2.1):=by
  unfold F.zr tagsB
  have L:=zqq n hn (fun _ _ _ _ _ _ => some true) (fun e _ _ _ _ _ _ => some (!(decide (e ≥ (0 : Int))))) (fun _ _ _ _ _ _ => rfl) (fun i _ _ _ _ _ _ h => by simp [h]) _ hm.2.2.1 hm.2.2.2 m.1 m.2.1 m.2.2.1 m.2.2.2.1 m.2.2.2.2.1 m.2.2.2.2.2.1 m.2.2.2.2.1 0 n rfl (by have:=hm.2.2.1; omega)
  rw [show ((0 : Nat) : Int) = (0 : Int) from rfl] at L
  rw [L]
  have e2 : decide ((m.2.2.2.2.1.length : Int) ≤ 32) = decide (m.2.2.2.2.1.length ≤ 32):=by apply decide_eq_decide.2; omega
  rw [e2]
  cases decide (m.2.2.2.2.1.length ≤ 32) <;> rfl
theorem zqv (n : Nat) (m : MetD) : F.za4 n m = some (timeB m.2.2.2.2.2.1):=by
  unfold F.za4 timeB
  rw [zbt]; rfl
theorem zbb (n : Nat) (hn : 200000 ≤ n) (m : MetD) (hm : MetOK m) : F.zo n m = some (chkM m):=by
  unfold F.zo
  obtain ⟨q,hq⟩ : ∃ q,n = q + 7:=⟨n - 7,by omega⟩
  have l1:=zqr n m hm.1 hn
  have l2:=zqs n m
  have l3:=zmi n hn m hm
  have l4:=zqt n m
  have l5:=zqu n hn m hm
  have l6:=zqv n m
  obtain ⟨nm,k,vs,r,ts,t,_⟩:=m
  simp only at l1 l2 l3 l4 l5 l6
  have key : ∀ (X : Type) (k0 : (List UInt8)→Int→(List DecL)→Int→(List TagL)→Int→(List UInt8)→Int→(List DecL)→Int→(List TagL)→Int→Option X) (kr : Int→(List UInt8)→Int→(List DecL)→Int→(List TagL)→Int→(List UInt8)→Int→(List DecL)→Int→(List TagL)→Int→Option X),
      F.zo.L3 n k0 kr (q + 7) ((((nm,k,vs,r,ts,t,()),()),(())),(15 : Int),(((nm,k,vs,r,ts,t,()),()),(())),(16 : Int),(((nm,k,vs,r,ts,t,()),()),(())),(17 : Int),(((nm,k,vs,r,ts,t,()),()),(())),(18 : Int),(((nm,k,vs,r,ts,t,()),()),(())),(19 : Int),(((nm,k,vs,r,ts,t,()),()),(())),(20 : Int),()) 0 nm k vs r ts t nm k vs r ts t =
      (bif !nameOK nm then kr 15 nm k vs r ts t nm k vs r ts t else bif !kindB k then kr 16 nm k vs r ts t nm k vs r ts t else bif !valsB vs then kr 17 nm k vs r ts t nm k vs r ts t else bif !rateB k r then kr 18 nm k vs r ts t nm k vs r ts t
        else bif !tagsB ts then kr 19 nm k vs r ts t nm k vs r ts t else bif !timeB t then kr 20 nm k vs r ts t nm k vs r ts t else k0 nm k vs r ts t nm k vs r ts t):=by
    intro X k0 kr
    refine Eq.trans (b:=(F.za1 n (nm,k,vs,r,ts,t,())).bind fun y => bif !y then kr 15 nm k vs r ts t nm k vs r ts t else
      (F.za2 n (nm,k,vs,r,ts,t,())).bind fun y => bif !y then kr 16 nm k vs r ts t nm k vs r ts t else
      (F.zn n (nm,k,vs,r,ts,t,())).bind fun y => bif !y then kr 17 nm k vs r ts t nm k vs r ts t else
      (F.za3 n (nm,k,vs,r,ts,t,())).bind fun y => bif !y then kr 18 nm k vs r ts t nm k vs r ts t else
      (F.zr n (nm,k,vs,r,ts,t,())).bind fun y => bif !y then kr 19 nm k vs r ts t nm k vs r ts t else
      (F.za4 n (nm,k,vs,r,ts,t,())).bind fun y => bif !y then kr 20 nm k vs r ts t nm k vs r ts t else k0 nm k vs r ts t nm k vs r ts t) (by kernel_rfl) ?_
    rw [l1,l2,l3,l4,l5,l6]
    rfl
  rw [← hq] at key
  rw [key]
  unfold chkM
  simp only [zgd]
end Go.AM
set_option linter.unusedVariables false
set_option linter.unusedSimpArgs false
namespace Go.AM
theorem zqw (x : UInt8) : cls 1 x = wordI (x.toNat : Int):=rfl
theorem zqx {X : Type} (n : Nat) (rec : List UInt8→Int→Option X) (k0 : List UInt8→Option X) (kr : Bool→Option X) (s : List UInt8) (k : Nat) (hk : k < s.length) (hs : s.length ≤ 10000) (x : UInt8) (hx : s[k]? = some x) :
    F.zac.L2.step n rec k0 kr s (k : Int) = if cls 1 x = true then rec s ((k + 1 : Nat) : Int) else kr false:=by
  unfold F.zac.L2.step
  rw [zd (by omega),zk,hx,zh (by omega),za,zqw]
  unfold wordI btw
  generalize hv : ((x.toNat : Nat) : Int) = v
  generalize rec s ((k + 1 : Nat) : Int) = A
  generalize kr false = B
  simp only [Bool.cond_eq_ite,Bool.not_eq_true',Bool.or_eq_true,Bool.and_eq_true,decide_eq_true_eq,beq_iff_eq,beq_eq_false_iff_ne,ne_eq]
  repeat' split
  all_goals first
    | rfl
    | (exfalso; omega)
theorem zjd (n : Nat) (X : Type) (k0 : List UInt8→Option X) (kr : Bool→Option X) (s : List UInt8) (hs : s.length ≤ 10000) : ∀ (r : List UInt8) (k m : Nat),s.drop k = r→r.length < m →
    F.zac.L2 n k0 kr m s (k : Int) = if r.all (cls 1) = true then k0 s else kr false:=by
  intro r
  induction r with
  | nil =>
    intro k m hk hm
    have:=zj hk
    cases m with
    | zero => simp at hm
    | succ m =>
      show F.zac.L2.step n (F.zac.L2 n k0 kr m) k0 kr s (k : Int) = _
      unfold F.zac.L2.step
      rw [ze (by omega)]
      rfl
  | cons x r ih =>
    intro k m hk hm
    obtain ⟨h1,h2,h3⟩:=zi hk
    cases m with
    | zero => simp at hm
    | succ m =>
      show F.zac.L2.step n (F.zac.L2 n k0 kr m) k0 kr s (k : Int) = _
      rw [zqx n _ _ _ s k h1 hs x h2,List.all_cons]
      cases hx : cls 1 x
      · rfl
      · rw [if_pos rfl,ih (k + 1) m h3 (by simp at hm; omega)]
        rfl
theorem ziv (s : List UInt8) : nameOK s = (s.all (cls 1) && (decide (1 ≤ s.length) && decide (s.length ≤ 200))):=by
  unfold nameOK textF
  rw [if_neg (by simp [may])]
  by_cases h1 : (s.length : Int) < 1
  · rw [if_pos h1]
    have : decide (1 ≤ s.length) = false:=decide_eq_false (by omega)
    rw [this]; simp
  rw [if_neg h1]
  have e1 : decide (1 ≤ s.length) = true:=decide_eq_true (by omega)
  by_cases h2 : (s.length : Int) > 200
  · rw [if_pos h2]
    have : decide (s.length ≤ 200) = false:=decide_eq_false (by omega)
    rw [this]; simp
  rw [if_neg h2]
  have e2 : decide (s.length ≤ 200) = true:=decide_eq_true (by omega)
  rw [e1,e2]
  by_cases h3 : 0 ≤ badK (cls 1) 0 s
  · rw [if_pos h3]
    have : s.all (cls 1) = false:=by
      have:=(zda (cls 1) 0 s).1 h3
      simpa using this
    rw [this]; rfl
  · rw [if_neg h3]
    have : s.all (cls 1) = true:=Classical.byContradiction fun hh => h3 ((zda _ _ _).2 hh)
    rw [this]; rfl
theorem ztz (n : Nat) (hn : 200000 ≤ n) (s : List UInt8) (hs : s.length ≤ 10000) : F.zac n s = some (nameOK s):=by
  unfold F.zac
  have L:=zjd n Bool (fun e2_0 => bif decide ((e2_0.length : Int) ≥ (1 : Int)) then some (decide ((e2_0.length : Int) ≤ (200 : Int))) else some (false)) (fun e3_2 => some (e3_2)) s hs s 0 n rfl (by omega)
  refine L.trans ?_
  rw [ziv]
  cases h : s.all (cls 1)
  · rfl
  · rw [if_pos rfl]
    by_cases h1 : 1 ≤ s.length
    · rw [zd (by omega),decide_eq_true h1]
      have e2 : decide ((s.length : Int) ≤ 200) = decide (s.length ≤ 200):=by apply decide_eq_decide.2; omega
      rw [e2]; rfl
    · rw [ze (by omega),decide_eq_false h1]; rfl
theorem zqy (n : Nat) (hn : 200000 ≤ n) (X : Type) (k0 : List UInt8→Int→List DecL→Int→List TagL→Int→Option X) (kr : Int→List UInt8→Int→List DecL→Int→List TagL→Int→Option X) (vs : List TagL) (hs : vs.length ≤ 10000) (hok : ∀ d ∈ vs,TagLOK d) (b0 : List UInt8) (b1 : Int) (b2 : List DecL) (b3 : Int) (b5 : Int) : ∀ (r : List TagL) (k m : Nat),vs.drop k = r→r.length < m →
    F.zw.L12 n k0 kr m (k : Int) b0 b1 b2 b3 vs b5 = bif r.all tagGood then k0 b0 b1 b2 b3 vs b5 else kr 19 b0 b1 b2 b3 vs b5:=by
  intro r
  induction r with
  | nil =>
    intro k m hk hm
    have:=zj hk
    cases m with
    | zero => simp at hm
    | succ m =>
      show F.zw.L12.step n (F.zw.L12 n k0 kr m) k0 kr _ _ _ _ _ _ _ = _
      unfold F.zw.L12.step
      rw [ze (by omega)]
      rfl
  | cons x r ih =>
    intro k m hk hm
    obtain ⟨h1,h2,h3⟩:=zi hk
    have hx : TagLOK x:=hok x (List.mem_of_getElem? h2)
    cases m with
    | zero => simp at hm
    | succ m =>
      show F.zw.L12.step n (F.zw.L12 n k0 kr m) k0 kr _ _ _ _ _ _ _ = _
      unfold F.zw.L12.step
      rw [zd (by omega),zk,h2]
      simp only [za,zw8 n hn hx,List.all_cons]
      cases h : tagGood x
      · rfl
      · rw [zh (by omega),ih (k + 1) m h3 (by simp at hm; omega)]; rfl
def restM (m : MetD) (vals : Bool) : Int:=
  bif !nameOK m.1 then 15 else bif !kindB m.2.1 then 16 else bif !(vals && (decide (1 ≤ m.2.2.1.length) && decide (m.2.2.1.length ≤ 64))) then 17 else bif !rateB m.2.1 m.2.2.2.1 then 18 else bif !tagsB m.2.2.2.2.1 then 19 else bif !timeB m.2.2.2.2.2.1 then 20 else 0
theorem zk5 (m : MetD) : chkM m = restM m (m.2.2.1.all fun d => decC d == 0):=by
  unfold chkM restM valsB
  cases decide (1 ≤ m.2.2.1.length) <;> cases decide (m.2.2.1.length ≤ 64) <;> cases (m.2.2.1.all fun d => decC d == 0) <;> rfl
theorem zk6 (n : Nat) (hn : 200000 ≤ n) (m : MetD) (h1 : m.1.length ≤ 10000) (h2 : m.2.2.2.2.1.length ≤ 10000) (h3 : ∀ t ∈ m.2.2.2.2.1,TagLOK t) (vals : Bool) : F.zw n m vals = some (restM m vals):=by
  obtain ⟨nm,k,vs,r,ts,t,_⟩:=m
  simp only at h1 h2 h3
  unfold F.zw restM
  simp only [ztz n hn nm h1,za]
  cases nameOK nm
  · rfl
  simp only [Bool.not_true,cond_false]
  unfold kindB
  by_cases k1 : k < 1
  · rw [zd k1,decide_eq_false (by omega : ¬ 1 ≤ k)]; rfl
  rw [ze k1,decide_eq_true (by omega : 1 ≤ k)]
  by_cases k2 : k > 5
  · rw [zd k2,decide_eq_false (by omega : ¬ k ≤ 5)]; rfl
  rw [ze k2,decide_eq_true (by omega : k ≤ 5)]
  simp only [Bool.and_self,Bool.not_true,cond_false]
  cases vals
  · rfl
  simp only [Bool.not_true,cond_false,Bool.true_and]
  by_cases v1 : (vs.length : Int) < 1
  · rw [zd v1,decide_eq_false (by omega : ¬ 1 ≤ vs.length)]; rfl
  rw [ze v1,decide_eq_true (by omega : 1 ≤ vs.length)]
  by_cases v2 : (vs.length : Int) > 64
  · rw [zd v2,decide_eq_false (by omega : ¬ vs.length ≤ 64)]; rfl
  rw [ze v2,decide_eq_true (by omega : vs.length ≤ 64)]
  simp only [Bool.and_self,Bool.not_true,cond_false]
  unfold rateB
  by_cases r1 : r < 1
  · rw [zd r1,decide_eq_false (by omega : ¬ 1 ≤ r)]; rfl
  rw [ze r1,decide_eq_true (by omega : 1 ≤ r)]
  by_cases r2 : r > 1000000
  · rw [zd r2,decide_eq_false (by omega : ¬ r ≤ 1000000)]; rfl
  rw [ze r2,decide_eq_true (by omega : r ≤ 1000000)]
  simp only [Bool.true_and]
  have tail : (bif decide ((ts.length : Int) > (32 : Int)) then some (19 : Int) else
        F.zw.L12 n
          (fun e4_b0_0 e4_b0_1 e4_b0_2 e4_b0_3 e4_b0_4 e4_b0_5 =>
            bif decide (e4_b0_5 < (0 : Int)) then some ((20 : Int)) else bif decide (e4_b0_5 > (1099511627776 : Int)) then some ((20 : Int)) else some ((0 : Int)))
          (fun e5_4 e5_b0_0 e5_b0_1 e5_b0_2 e5_b0_3 e5_b0_4 e5_b0_5 => some (e5_4)) n (0 : Int) nm k vs r ts t) = some (bif !tagsB ts then 19 else bif !timeB t then 20 else 0):=by
    unfold tagsB timeB
    by_cases t1 : (ts.length : Int) > 32
    · rw [zd t1,decide_eq_false (by omega : ¬ ts.length ≤ 32)]; rfl
    rw [ze t1,decide_eq_true (by omega : ts.length ≤ 32)]
    refine (zqy n hn Int _ _ ts h2 h3 nm k vs r t ts 0 n rfl (by omega)).trans ?_
    cases ts.all tagGood
    · rfl
    · rw [cond_true]
      by_cases u1 : t < 0
      · rw [zd u1,decide_eq_false (by omega : ¬ 0 ≤ t)]; rfl
      rw [ze u1,decide_eq_true (by omega : 0 ≤ t)]
      by_cases u2 : t > 1099511627776
      · rw [zd u2,decide_eq_false (by omega : ¬ t ≤ 1099511627776)]; rfl
      rw [ze u2,decide_eq_true (by omega : t ≤ 1099511627776)]
      rfl
  cases hk : (k == 2)
  · exact tail
  · cases hr : (r == 1000000)
    · rfl
    · exact tail
end Go.AM
set_option linter.unusedVariables false
set_option linter.unusedSimpArgs false
namespace Go.AM
theorem zqz (n : Nat) (hn : 200000 ≤ n) (neg : Bool) (c : Nat) (hc : c < two64) (e : Int) : F.zbl n (neg,(c : Int),e,()) = some (checkR neg c e):=by
  unfold F.zbl checkR
  have hl:=zav hc
  simp only [digits03 n (by omega) c hc,zni n hn neg _ (zbh c) (by omega) e,za]
  have T:=zg6 neg c e _ rfl
  have T' : (bif !((valR neg (Lib.decDigits c) e).2.1 == 0) then some (21 : Int) else bif !(((valR neg (Lib.decDigits c) e).1.1 == neg) && (((valR neg (Lib.decDigits c) e).1.2.1 == (c : Int)) && ((valR neg (Lib.decDigits c) e).1.2.2.1 == e))) then some ((21 : Int)) else some ((0 : Int))) = _:=T
  by_cases h0 : c = 0
  · have e0 : (((c : Int)) == 0) = true:=by simp [h0]
    rw [e0,if_neg (fun h => h.1 h0)]
    exact T'
  · have e0 : (((c : Int)) == 0) = false:=by simpa using h0
    rw [e0]
    simp only [Bool.not_false,cond_true]
    by_cases h1 : e < -18
    · rw [zd h1,if_pos ⟨h0,Or.inl h1⟩]
    · rw [ze h1]
      by_cases h2 : e > 18
      · rw [zd h2,if_pos ⟨h0,Or.inr h2⟩]
      · rw [ze h2,if_neg (by omega)]
        exact T'
end Go.AM
set_option linter.unusedVariables false
set_option linter.unusedSimpArgs false
namespace Go.AM
theorem zt0 (n : Nat) (hn : 200000 ≤ n) {d : DecL} (h : DecLOK d) : F.zbl n (d.1,d.2.1,d.2.2,()) = some (decC d):=by
  obtain ⟨neg,c,e,rfl,hc,he⟩:=zaw h
  exact zqz n hn neg c hc e
theorem zol (n : Nat) (hn : 200000 ≤ n) (X : Type) (k0 : Bool→List UInt8→Int→List DecL→Int→List TagL→Int→Option X) (vs : List DecL) (hs : vs.length ≤ 10000) (hok : ∀ d ∈ vs,DecLOK d) (b0 : List UInt8) (b1 : Int) (b3 : Int) (b4 : List TagL) (b5 : Int) : ∀ (r : List DecL) (k m : Nat) (v : Bool),vs.drop k = r→r.length < m →
    F.z1.L3 n k0 m v (k : Int) b0 b1 vs b3 b4 b5 = k0 (v && r.all fun d => decC d == 0) b0 b1 vs b3 b4 b5:=by
  intro r
  induction r with
  | nil =>
    intro k m v hk hm
    have:=zj hk
    cases m with
    | zero => simp at hm
    | succ m =>
      show F.z1.L3.step n (F.z1.L3 n k0 m) k0 v _ _ _ _ _ _ _ = _
      unfold F.z1.L3.step
      rw [ze (by omega)]
      cases v <;> rfl
  | cons x r ih =>
    intro k m v hk hm
    obtain ⟨h1,h2,h3⟩:=zi hk
    have hx : DecLOK x:=hok x (List.mem_of_getElem? h2)
    cases m with
    | zero => simp at hm
    | succ m =>
      show F.z1.L3.step n (F.z1.L3 n k0 m) k0 v _ _ _ _ _ _ _ = _
      unfold F.z1.L3.step
      rw [zd (by omega),zh (by omega)]
      cases v
      · rw [cond_false,ih (k + 1) m _ h3 (by simp at hm; omega)]; rfl
      · rw [cond_true,zk,h2]
        simp only [za,zt0 n hn hx,List.all_cons,Bool.true_and]
        rw [ih (k + 1) m _ h3 (by simp at hm; omega)]
theorem zk7 (n : Nat) (hn : 200000 ≤ n) (m : MetD) (hm : MetOK m) : F.z1 n m = some (chkM m):=by
  have hr:=zk6 n hn m hm.1 hm.2.2.1 hm.2.2.2 (m.2.2.1.all fun d => decC d == 0)
  have h2:=hm.2.1
  rw [zk5]
  obtain ⟨nm,k,vs,r,ts,t,_⟩:=m
  simp only at hr h2 ⊢
  unfold F.z1
  refine (zol n hn Int _ vs h2.1 h2.2 nm k r ts t vs 0 n true rfl (by have:=h2.1; omega)).trans ?_
  rw [Bool.true_and,hr]
  rfl
def bareM (m : MetD) : Bool:=decide (m.2.2.1.length = 1) && decide (m.2.2.2.2.1.length = 0)
def negM (m : MetD) : Bool:=match m.2.2.1 with | [] => false | d :: _ => d.1
def saysS (m : MetD) : Bool:=bareM m && ((m.2.2.2.2.2.1 == 0) && (!(m.2.1 == 5) && (!(m.2.1 == 2) || !negM m)))
def saysG (m : MetD) : Bool:=bareM m && (!(m.2.2.2.2.2.1 == 0) && (m.2.1 == 2))
def saysM (m : MetD) (f : Int) : Bool:=if f = 1 then saysS m else if f = 3 then saysG m else true
def expM (m : MetD) (f : Int) : Int:=if f < 1 ∨ f > 4 then 29 else if chkM m = 0 then (bif saysM m f then 0 else 26) else chkM m
theorem znk (l : List DecL) (k : Nat) : (((l.length : Nat) : Int) == ((k : Nat) : Int)) = decide (l.length = k):=by
  by_cases h : l.length = k
  · rw [h]; simp
  · rw [decide_eq_false h,beq_eq_false_iff_ne]; omega
theorem zk8 (l : List TagL) (k : Nat) : (((l.length : Nat) : Int) == ((k : Nat) : Int)) = decide (l.length = k):=by
  by_cases h : l.length = k
  · rw [h]; simp
  · rw [decide_eq_false h,beq_eq_false_iff_ne]; omega
theorem znl (n : Nat) (m : MetD) : F.za0 n m = some (bareM m):=by
  have h1:=znk m.2.2.1 1
  have h2:=zk8 m.2.2.2.2.1 0
  unfold F.za0 bareM
  rw [show (1 : Int) = ((1 : Nat) : Int) from rfl,show (0 : Int) = ((0 : Nat) : Int) from rfl,h1,h2]
  cases decide (m.2.2.1.length = 1) <;> rfl
theorem znm {m : MetD} (h : bareM m = true) : ∃ d,idx m.2.2.1 (0 : Int) = some d ∧ negM m = d.1:=by
  unfold bareM at h
  obtain ⟨nm,k,vs,r,ts,t,_⟩:=m
  match vs,h with
  | [d],_ => exact ⟨d,rfl,rfl⟩
theorem zq0 (n : Nat) (m : MetD) : F.zas n m = some (saysS m):=by
  unfold F.zas saysS
  have hb : F.za0 n (m.1,m.2.1,m.2.2.1,m.2.2.2.1,m.2.2.2.2.1,m.2.2.2.2.2.1,()) = some (bareM m):=znl n m
  rw [hb,za]
  cases h : bareM m
  · rfl
  simp only [Bool.not_true,cond_false,Bool.true_and]
  obtain ⟨d,hd,hg⟩:=znm h
  rw [hd,hg]
  cases (m.2.2.2.2.2.1 == 0) <;> cases (m.2.1 == 5) <;> cases (m.2.1 == 2) <;> rfl
theorem zq1 (n : Nat) (m : MetD) : F.zao n m = some (saysG m):=by
  unfold F.zao saysG
  have hb : F.za0 n (m.1,m.2.1,m.2.2.1,m.2.2.2.1,m.2.2.2.2.1,m.2.2.2.2.2.1,()) = some (bareM m):=znl n m
  rw [hb,za]
  cases bareM m <;> cases (m.2.2.2.2.2.1 == 0) <;> rfl
theorem zt1 (n : Nat) (m : MetD) (f : Int) : F.zbq n m f = some (saysM m f):=by
  unfold F.zbq saysM saysS saysG
  have h1:=znk m.2.2.1 1
  have h2:=zk8 m.2.2.2.2.1 0
  have e1 : ((m.2.2.1.length : Int) == (1 : Int)) = decide (m.2.2.1.length = 1):=h1
  have e2 : ((m.2.2.2.2.1.length : Int) == (0 : Int)) = decide (m.2.2.2.2.1.length = 0):=h2
  rw [e1,e2]
  by_cases f1 : f = 1
  · subst f1
    simp only [beq_self_eq_true,cond_true,if_true]
    cases hb : bareM m
    · unfold bareM at hb
      cases g1 : decide (m.2.2.1.length = 1)
      · rfl
      · rw [g1,Bool.true_and] at hb
        rw [hb]; rfl
    · obtain ⟨d,hd,hg⟩:=znm hb
      unfold bareM at hb
      rw [Bool.and_eq_true] at hb
      rw [hb.1,hb.2,hd,hg]
      cases (m.2.2.2.2.2.1 == 0) <;> cases (m.2.1 == 5) <;> cases (m.2.1 == 2) <;> rfl
  · rw [beq_eq_false_iff_ne.2 f1,if_neg f1]
    by_cases f3 : f = 3
    · subst f3
      simp only [beq_self_eq_true,cond_true,cond_false,if_true]
      unfold bareM
      cases decide (m.2.2.1.length = 1) <;> cases decide (m.2.2.2.2.1.length = 0) <;> cases (m.2.2.2.2.2.1 == 0) <;> rfl
    · rw [beq_eq_false_iff_ne.2 f3,if_neg f3]
      cases decide (m.2.2.1.length = 1) <;> rfl
theorem zhr (n : Nat) (hn : 200000 ≤ n) (m : MetD) (hm : MetOK m) (f : Int) : F.zav n m f = some (expM m f):=by
  have hc : F.zo n (m.1,m.2.1,m.2.2.1,m.2.2.2.1,m.2.2.2.2.1,m.2.2.2.2.2.1,()) = some (chkM m):=zbb n hn m hm
  have hs : F.zas n (m.1,m.2.1,m.2.2.1,m.2.2.2.1,m.2.2.2.2.1,m.2.2.2.2.2.1,()) = some (saysS m):=zq0 n m
  have hg : F.zao n (m.1,m.2.1,m.2.2.1,m.2.2.2.1,m.2.2.2.2.1,m.2.2.2.2.2.1,()) = some (saysG m):=zq1 n m
  unfold F.zav expM
  rw [hc,hs,hg]
  simp only [za]
  by_cases h : f < 1 ∨ f > 4
  · rw [if_pos h,beq_eq_false_iff_ne.2 (by omega : f ≠ 1),beq_eq_false_iff_ne.2 (by omega : f ≠ 2),beq_eq_false_iff_ne.2 (by omega : f ≠ 3),beq_eq_false_iff_ne.2 (by omega : f ≠ 4)]
    rfl
  rw [if_neg h]
  by_cases h0 : chkM m = 0
  · rw [if_pos h0,h0]
    rcases (by omega : f = 1 ∨ f = 2 ∨ f = 3 ∨ f = 4) with rfl | rfl | rfl | rfl
    · show (bif !saysS m then some 26 else some 0) = some (bif saysS m then 0 else 26)
      cases saysS m <;> rfl
    · rfl
    · show (bif !saysG m then some 26 else some 0) = some (bif saysG m then 0 else 26)
      cases saysG m <;> rfl
    · rfl
  · rw [if_neg h0,beq_eq_false_iff_ne.2 h0]
    rcases (by omega : f = 1 ∨ f = 2 ∨ f = 3 ∨ f = 4) with rfl | rfl | rfl | rfl <;> rfl
end Go.AM
set_option linter.unusedVariables false
set_option linter.unusedSimpArgs false
namespace Go.AM
theorem zk9 (x y : TagL) : ((x.1 == y.1) && (x.2 == y.2)) = decide (x = y):=by
  obtain ⟨a,b⟩:=x
  obtain ⟨a',b'⟩:=y
  by_cases h : ((a,b) : TagL) = (a',b')
  · rw [decide_eq_true h]
    simp only [Prod.mk.injEq] at h
    simp [h.1,h.2]
  · rw [decide_eq_false h]
    cases h1 : (a == a') && (b == b') with
    | false => rfl
    | true =>
      simp only [Bool.and_eq_true,beq_iff_eq] at h1
      exact absurd (by rw [h1.1,h1.2]) h
end Go.AM
set_option linter.unusedVariables false
set_option linter.unusedSimpArgs false
namespace Go.AM
theorem ziw (n : Nat) (X : Type) (k0 : List UInt8→List UInt8→Option X) (kr : Bool→Option X) (a b : List UInt8) (k m : Nat) (h : a.length ≤ k ∨ b.length ≤ k) (hm : 0 < m) : F.zz.L2 n k0 kr m a b (k : Int) = k0 a b:=by
  obtain ⟨m,rfl⟩ : ∃ p,m = p + 1:=⟨m - 1,by omega⟩
  show F.zz.L2.step n (F.zz.L2 n k0 kr m) k0 kr _ _ _ = _
  unfold F.zz.L2.step
  by_cases hk : (k : Int) < (a.length : Int)
  · rw [zd hk,ze (by omega)]
  · rw [ze hk]
theorem zla (n : Nat) (a b : List UInt8) (ha : a.length ≤ 1000000) (hb : b.length ≤ 1000000) (hn : a.length < n) : F.zz n a b = some (Op.bytesLess a b):=by
  have L : ∀ (r q : List UInt8) (k m : Nat),a.drop k = r→b.drop k = q→k ≤ a.length→k ≤ b.length→r.length < m →
      F.zz.L2 n (fun e5_0 e5_1 => some (decide ((e5_0.length : Int) < (e5_1.length : Int)))) (fun e6_4 => some (e6_4)) m a b (k : Int) = some (Op.bytesLess r q):=by
    intro r
    induction r with
    | nil =>
      intro q k m h1 h2 ka kb hm
      have l1:=zj h1
      rw [ziw n Bool _ _ a b k m (Or.inl l1) (by omega)]
      cases q with
      | nil =>
        have l2:=zj h2
        show some (decide _) = some false
        by_cases hk : a.length < b.length
        · omega
        · rw [decide_eq_false (by omega)]
      | cons y q =>
        obtain ⟨l2,_,_⟩:=zi h2
        show some (decide _) = some true
        rw [decide_eq_true (by omega)]
    | cons x r ih =>
      intro q k m h1 h2 ka kb hm
      obtain ⟨l1,g1,t1⟩:=zi h1
      cases q with
      | nil =>
        have l2:=zj h2
        rw [ziw n Bool _ _ a b k m (Or.inr l2) (by omega)]
        show some (decide _) = some false
        rw [decide_eq_false (by omega)]
      | cons y q =>
        obtain ⟨l2,g2,t2⟩:=zi h2
        obtain ⟨m,rfl⟩ : ∃ p,m = p + 1:=⟨m - 1,by simp at hm; omega⟩
        rw [F.zz.L2]
        unfold F.zz.L2.step
        dsimp only
        rw [zd (by omega),zd (by omega),zk,zk,g1,g2]
        simp only [za,blc]
        by_cases e : x = y
        · subst e
          rw [beq_self_eq_true,Bool.not_true,cond_false,zh (by omega),ih q (k + 1) m t1 t2 (by omega) (by omega) (by simp at hm; omega)]
          have hx : ¬ x < x:=by rw [zjh]; omega
          rw [decide_eq_false hx]; simp
        · have e' : ¬ ((x.toNat : Int)) = (y.toNat : Int):=fun h => e (zji.2 (by omega))
          rw [beq_eq_false_iff_ne.2 e',Bool.not_false,cond_true,beq_eq_false_iff_ne.2 e]
          simp only [Bool.false_and,Bool.or_false,Option.some.injEq]
          apply decide_eq_decide.2
          rw [zjh]; omega
  unfold F.zz
  exact L a b 0 n rfl rfl (by omega) (by omega) hn
theorem zw9 (n : Nat) (a b : TagL) (ha : TagLOK a) (hb : TagLOK b) (hn : 200000 ≤ n) : F.zb9 n (a.1,a.2,()) (b.1,b.2,()) = some (ltT a b):=by
  unfold F.zb9 ltT
  simp only
  rw [zla n a.1 b.1 (by have:=ha.1; omega) (by have:=hb.1; omega) (by have:=ha.1; omega),zla n a.2 b.2 (by have:=ha.2; omega) (by have:=hb.2; omega) (by have:=ha.2; omega)]
  simp only [za]
  by_cases e : a.1 = b.1
  · rw [if_pos e,e,zbx,beq_self_eq_true]; rfl
  · rw [if_neg e,beq_eq_false_iff_ne.2 e]
    cases Op.bytesLess a.1 b.1 <;> rfl
def insD (t : TagL) : List TagL→List TagL
  | [] => [t]
  | x :: r => if ltT x t then x :: insD t r else if x = t then x :: r else t :: x :: r
def normT (l : List TagL) : List TagL:=l.foldl (fun o t => insD t o) []
abbrev StrictT (l : List TagL) : Prop:=l.Pairwise fun a b => ltT a b = true
theorem zdt (t : TagL) : ∀ (l : List TagL) (x : TagL),x ∈ insD t l ↔ x = t ∨ x ∈ l
  | [],x => by simp [insD]
  | y :: r,x => by
    unfold insD
    split
    · simp only [List.mem_cons,zdt t r x]
      constructor
      · rintro (h | h | h) <;> simp [h]
      · rintro (h | h | h) <;> simp [h]
    · split
      · rename_i e
        subst e
        simp only [List.mem_cons]
        constructor
        · rintro (h | h) <;> simp [h]
        · rintro (h | h | h) <;> simp [h]
      · simp only [List.mem_cons]
theorem zfw (t : TagL) : ∀ (l : List TagL),StrictT l→StrictT (insD t l)
  | [],_ => by simp [insD,StrictT]
  | y :: r,h => by
    obtain ⟨h1,h2⟩:=List.pairwise_cons.1 h
    unfold insD
    split
    · rename_i hy
      refine List.pairwise_cons.2 ⟨fun x hx => ?_,zfw t r h2⟩
      rcases (zdt t r x).1 hx with rfl | hx
      · exact hy
      · exact h1 x hx
    · rename_i hy
      split
      · exact h
      · rename_i hne
        have hty : ltT t y = true:=by
          cases hc : ltT t y
          · exact absurd (zcm (by simpa using hy) hc) hne
          · rfl
        refine List.pairwise_cons.2 ⟨fun x hx => ?_,h⟩
        rcases List.mem_cons.1 hx with rfl | hx
        · exact hty
        · exact zcl hty (h1 x hx)
theorem zb0 : ∀ (a b : List TagL),StrictT a→StrictT b→(∀ x,x ∈ a ↔ x ∈ b)→a = b
  | [],[],_,_,_ => rfl
  | [],y :: b,_,_,h => by have:=(h y).2 (by simp); cases this
  | x :: a,[],_,_,h => by have:=(h x).1 (by simp); cases this
  | x :: a,y :: b,ha,hb,h => by
    obtain ⟨h1,h2⟩:=List.pairwise_cons.1 ha
    obtain ⟨h3,h4⟩:=List.pairwise_cons.1 hb
    have e : x = y:=by
      rcases List.mem_cons.1 ((h x).1 (by simp)) with e | e
      · exact e
      · rcases List.mem_cons.1 ((h y).2 (by simp)) with e' | e'
        · exact e'.symm
        · have:=zin (h1 y e'); rw [h3 x e] at this; cases this
    subst e
    rw [zb0 a b h2 h4 (fun z => ?_)]
    have hx:=h z
    simp only [List.mem_cons] at hx
    constructor
    · intro hz
      rcases hx.1 (Or.inr hz) with rfl | h'
      · have:=h1 _ hz; rw [zb4] at this; cases this
      · exact h'
    · intro hz
      rcases hx.2 (Or.inr hz) with rfl | h'
      · have:=h3 _ hz; rw [zb4] at this; cases this
      · exact h'
theorem zdu : ∀ (l o : List TagL),StrictT o→StrictT (l.foldl (fun o t => insD t o) o) ∧ ∀ x,x ∈ l.foldl (fun o t => insD t o) o ↔ x ∈ o ∨ x ∈ l
  | [],o,h => ⟨h,fun x => by simp⟩
  | t :: l,o,h => by
    obtain ⟨h1,h2⟩:=zdu l (insD t o) (zfw t o h)
    refine ⟨h1,fun x => ?_⟩
    rw [List.foldl_cons,h2 x,zdt,List.mem_cons]
    constructor
    · rintro ((h | h) | h) <;> simp [h]
    · rintro (h | h | h) <;> simp [h]
theorem zbn (l : List TagL) : StrictT (normT l):=(zdu l [] List.Pairwise.nil).1
theorem zcp (l : List TagL) (x : TagL) : x ∈ normT l ↔ x ∈ l:=by
  unfold normT; rw [(zdu l [] List.Pairwise.nil).2 x]; simp
theorem zt2 {l : List TagL} (h : StrictT l) : normT l = l:=
  zb0 _ _ (zbn l) h (fun x => zcp l x)
theorem zdv (t : TagL) : ∀ l,(insD t l).length ≤ l.length + 1
  | [] => by simp [insD]
  | y :: r => by
    unfold insD
    have:=zdv t r
    split
    · simp; omega
    · split <;> simp
theorem ze1 (l : List TagL) : (normT l).length ≤ l.length:=by
  have : ∀ (l o : List TagL),(l.foldl (fun o t => insD t o) o).length ≤ o.length + l.length:=by
    intro l
    induction l with
    | nil => intro o; simp
    | cons t l ih => intro o; have h1:=ih (insD t o); have h2:=zdv t o; simp only [List.foldl_cons,List.length_cons]; omega
  have h:=this l []
  simp only [List.length_nil,Nat.zero_add] at h
  exact h
def dedF (D : List TagL) (t : TagL) : List TagL:=if D.getLast? = some t then D else D ++ [t]
theorem zix : ∀ (s D : List TagL),SortedT s→StrictT D→(∀ a ∈ D,∀ b ∈ s,ltT b a = false)→StrictT (s.foldl dedF D) ∧ ∀ x,x ∈ s.foldl dedF D ↔ x ∈ D ∨ x ∈ s
  | [],D,_,h,_ => ⟨h,fun x => by simp⟩
  | t :: s, D, hs, hD, hb => by
    obtain ⟨h1,h2⟩:=List.pairwise_cons.1 hs
    have key : StrictT (dedF D t) ∧ (∀ x,x ∈ dedF D t ↔ x ∈ D ∨ x = t):=by
      unfold dedF
      split
      · rename_i e
        have ht : t ∈ D:=List.mem_of_getLast? e
        exact ⟨hD,fun x => ⟨Or.inl,fun h => h.elim id (fun e => e ▸ ht)⟩⟩
      · rename_i e
        refine ⟨?_,fun x => by simp⟩
        refine List.pairwise_append.2 ⟨hD,List.pairwise_singleton _ _,fun a ha b hb' => ?_⟩
        rw [List.mem_singleton.1 hb']
        have h0:=hb a ha t (by simp)
        cases hc : ltT a t
        · exfalso
          have : a = t:=zcm hc h0
          subst this
          apply e
          have : ∀ (D : List TagL),StrictT D→(∀ x ∈ D,ltT a x = false)→a ∈ D→D.getLast? = some a:=by
            intro D
            induction D with
            | nil => intro _ _ h; cases h
            | cons y D ih =>
              intro hp hm hin
              obtain ⟨p1,p2⟩:=List.pairwise_cons.1 hp
              cases D with
              | nil => rcases List.mem_cons.1 hin with rfl | h
                       · rfl
                       · cases h
              | cons z D =>
                rw [List.getLast?_cons_cons]
                refine ih p2 (fun x hx => hm x (List.mem_cons_of_mem _ hx)) ?_
                rcases List.mem_cons.1 hin with rfl | h
                · have:=p1 z (by simp); rw [hm z (by simp)] at this; cases this
                · exact h
          exact this D hD (fun x hx => hb x hx a (by simp)) ha
        · rfl
    obtain ⟨k1,k2⟩:=key
    obtain ⟨f1,f2⟩:=zix s (dedF D t) h2 k1 (fun a ha b hb' => by
      rcases (k2 a).1 ha with ha | rfl
      · exact hb a ha b (List.mem_cons_of_mem _ hb')
      · exact h1 b hb')
    refine ⟨f1,fun x => ?_⟩
    rw [List.foldl_cons,f2 x,k2 x,List.mem_cons]
    constructor
    · rintro ((h | h) | h) <;> simp [h]
    · rintro (h | h | h) <;> simp [h]
theorem zt3 (l : List TagL) : (sortTags l).foldl dedF [] = normT l:=by
  obtain ⟨h1,h2⟩:=zix (sortTags l) [] (zbm l) List.Pairwise.nil (fun a ha => by cases ha)
  refine zb0 _ _ h1 (zbn l) (fun x => ?_)
  rw [h2 x,zcp,(zaz l).mem_iff]; simp
theorem zfi {α : Type} : ∀ (l : List α) (k : Nat) (x : α),upd l k x = l.set k x
  | [],_,_ => rfl
  | _ :: l,0,_ => rfl
  | _ :: l,k + 1,x => by simp [upd,zfi l k x]
end Go.AM
set_option linter.unusedVariables false
set_option linter.unusedSimpArgs false
namespace Go.AM
theorem zlb {α : Type} {L D : List α} {k : Nat} (h : L.take D.length = D) (hk : D.length = k + 1) : L[k]? = D.getLast?:=by
  rw [List.getLast?_eq_getElem?]
  have : D[D.length - 1]? = (L.take D.length)[D.length - 1]?:=by rw [h]
  rw [this,hk,List.getElem?_take]
  simp
theorem zt4 {α : Type} {L D : List α} (x : α) (h : L.take D.length = D) (hk : D.length < L.length) : (L.set D.length x).take (D ++ [x]).length = D ++ [x]:=by
  rw [List.length_append,List.length_singleton,List.take_add_one,List.take_set_of_le (Nat.le_refl _),h]
  simp [hk]
theorem zt5 {α : Type} (L : List α) (i k : Nat) (x : α) (h : i ≤ k) : (L.set i x).drop (k + 1) = L.drop (k + 1):=List.drop_set_of_lt (by omega)
theorem zq2 (n : Nat) (X : Type) (k0 : (Nat × Nat)→Int→(Nat × List TagL)→(Nat × List TagL)→(Nat × List TagL)→Option X) (v N : Nat) (hN : N ≤ 100000) (b0 b1 : Nat × List TagL) :
    ∀ (r D L : List TagL) (i m : Nat),L.drop i = r→i ≤ N→r.length < m→D.length ≤ i→(i = 0 ↔ D = [])→L.length = N→L.take D.length = D →
    ∃ L',L'.take (r.foldl dedF D).length = r.foldl dedF D ∧ L'.length = N ∧ F.zu.L5 n k0 m (v,N) (D.length : Int) (v,N) (N : Int) (i : Int) b0 b1 (v,L) = k0 (v,N) ((r.foldl dedF D).length : Int) b0 b1 (v,L'):=by
  intro r
  induction r with
  | nil =>
    intro D L i m hr hi hm hD h0 hL hT
    obtain ⟨m,rfl⟩ : ∃ p,m = p + 1:=⟨m - 1,by omega⟩
    refine ⟨L,hT,hL,?_⟩
    rw [F.zu.L5]
    unfold F.zu.L5.step
    dsimp only
    rw [ze (by have:=zj hr; omega)]
    rfl
  | cons x r ih =>
    intro D L i m hr hi hm hD h0 hL hT
    obtain ⟨m,rfl⟩ : ∃ p,m = p + 1:=⟨m - 1,by simp at hm; omega⟩
    obtain ⟨l1,g1,t1⟩:=zi hr
    have hw : IntKind.wrap .i64 ((D.length : Int) + 1) = ((D.length + 1 : Nat) : Int):=zh (by omega)
    have hput : ∃ L',L'.take (r.foldl dedF (D ++ [x])).length = r.foldl dedF (D ++ [x]) ∧ L'.length = N ∧ F.zu.L5 n k0 m (v,N) (((D ++ [x]).length : Nat) : Int) (v,N) (N : Int) ((i + 1 : Nat) : Int) b0 b1 (v,L.set D.length x) = k0 (v,N) ((r.foldl dedF (D ++ [x])).length : Int) b0 b1 (v,L'):=
      ih (D ++ [x]) (L.set D.length x) (i + 1) m (by rw [zt5 L D.length i x hD]; exact t1) (by omega) (by simp at hm; omega) (by simp; omega) (by simp) (by simpa using hL) (zt4 x hT (by omega))
    rw [F.zu.L5]
    unfold F.zu.L5.step
    dsimp only
    rw [List.foldl_cons]
    have hb1 : (decide ((0 : Int) ≤ (i : Int)) && decide ((i : Int) < (N : Int))) = true:=by simp; omega
    have hb2 : (decide ((0 : Int) ≤ (D.length : Int)) && decide ((D.length : Int) < (N : Int))) = true:=by simp; omega
    have hbe : Nat.beq v v = true:=Nat.beq_refl v
    rw [zd (by omega : (i : Int) < (N : Int)),hb1,hbe,cond_true,cond_true,zk,g1,za,zh (by omega : i < 4611686018427387904)]
    by_cases hi0 : i = 0
    · have hD0:=h0.1 hi0
      have e0 : ((i : Int) == 0) = true:=by simp [hi0]
      rw [e0,cond_true,hb2,cond_true,cond_true,zev (by omega : D.length < L.length),za,hw,Int.toNat_natCast,zfi]
      have hd : dedF D x = D ++ [x]:=by rw [hD0]; rfl
      rw [hd]
      obtain ⟨L',q1,q2,q3⟩:=hput
      refine ⟨L',q1,q2,?_⟩
      rw [← q3,List.length_append,List.length_singleton]
    · have e0 : ((i : Int) == 0) = false:=by simpa using hi0
      have hne : D ≠ []:=fun h => hi0 (h0.2 h)
      have hpos : 0 < D.length:=List.length_pos_iff.2 hne
      have hwp : IntKind.wrap .i64 ((D.length : Int) - 1) = ((D.length - 1 : Nat) : Int):=by rw [zq (by omega)]; omega
      have hb3 : (decide ((0 : Int) ≤ ((D.length - 1 : Nat) : Int)) && decide (((D.length - 1 : Nat) : Int) < (N : Int))) = true:=by simp; omega
      obtain ⟨y,hy⟩ : ∃ y,D.getLast? = some y:=⟨_,List.getLast?_eq_some_getLast hne⟩
      have gl : L[D.length - 1]? = some y:=by rw [zlb hT (by omega),hy]
      rw [e0,cond_false,hwp,hb3,cond_true,cond_true,zk,gl,za,zk9]
      by_cases hxy : x = y
      · rw [decide_eq_true hxy,Bool.not_true,cond_false]
        have hd : dedF D x = D:=by unfold dedF; rw [hy,hxy,if_pos rfl]
        rw [hd]
        exact ih D L (i + 1) m t1 (by omega) (by simp at hm; omega) (by omega) (by simp [hne]) hL hT
      · rw [decide_eq_false hxy,Bool.not_false,cond_true,hb2,cond_true,cond_true,zev (by omega : D.length < L.length),za,hw,Int.toNat_natCast,zfi]
        have hd : dedF D x = D ++ [x]:=by unfold dedF; rw [hy,if_neg (by simpa using fun h : y = x => hxy h.symm)]
        rw [hd]
        obtain ⟨L',q1,q2,q3⟩:=hput
        refine ⟨L',q1,q2,?_⟩
        rw [← q3,List.length_append,List.length_singleton]
theorem zxa (n : Nat) (l : List TagL) : F.zt n l = some l:=by
  unfold F.zt
  rw [beq_self_eq_true,cond_true,show (0 : Int) = ((0 : Nat) : Int) from rfl,zai l 0 l.length (by omega) (by omega)]
  simp
theorem zgf (n : Nat) (hn : 200000 ≤ n) (l : List TagL) (hl : l.length ≤ 100000) (v : Nat) (b0 b1 : Nat × List TagL) :
    F.zu.L5 n (fun (e11_3 : Nat × Nat) (e11_4 : Int) (e11_b0_0 e11_b1_0 e11_b2_0 : Nat × List TagL) =>
          bif Nat.beq e11_3.1 e11_b2_0.1 then
            (sub e11_b2_0.2 (0 : Int) e11_4).bind fun x12 =>
              (F.zt n x12).bind fun y13 =>
                some (y13)
          else
            none) n (v,l.length) (0 : Int) (v,l.length) (l.length : Int) (0 : Int) b0 b1 (v,sortTags l) = some (normT l):=by
  obtain ⟨L', q1,q2,q3⟩:=zq2 n _ (fun (e11_3 : Nat × Nat) (e11_4 : Int) (e11_b0_0 e11_b1_0 e11_b2_0 : Nat × List TagL) =>
          bif Nat.beq e11_3.1 e11_b2_0.1 then
            (sub e11_b2_0.2 (0 : Int) e11_4).bind fun x12 =>
              (F.zt n x12).bind fun y13 =>
                some (y13)
          else
            none) v l.length hl b0 b1 (sortTags l) [] (sortTags l) 0 n rfl (by omega) (by rw [za4]; omega) (by simp) (by simp) (za4 l) rfl
  refine q3.trans ?_
  rw [zt3] at q1 ⊢
  dsimp only
  rw [Nat.beq_refl,cond_true,show (0 : Int) = ((0 : Nat) : Int) from rfl,zai L' 0 _ (by omega) (by rw [q2]; exact ze1 l),q1]
  simp only [za,List.drop_zero,zxa]
theorem zlc (n : Nat) (hn : 200000 ≤ n) (l : List TagL) (hl : l.length ≤ 100000) : F.zu n l = some (normT l):=by
  have e1 : (decide ((0 + l.length) * 32 ≤ 2 ^ 46) && decide (0 < 32 ∧ 32 ≤ 2 ^ 20)) = true:=by
    rw [decide_eq_true (by omega)]; rfl
  have e2 : ∀ l : List TagL,l.length ≤ 100000→(Nat.beq (sortTags l).length l.length && Nat.blt l.length strMax) = true:=by
    intro l hl
    rw [za4,Nat.beq_refl,Bool.true_and,zl]
    exact Nat.ble_eq ▸ (by omega : l.length + 1 ≤ 4611686018427387904)
  unfold F.zu
  rw [List.nil_append,e1,cond_true,e2 l hl,cond_true]
  cases l with
  | nil =>
    have h1:=zgf n hn [] (by simp) 1 (1,[]) (1,[])
    have h2:=zgf n hn [] (by simp) 2 (1,[]) (1,[])
    refine Eq.trans (b:=both (some (normT [])) (some (normT []))) ?_ (zhw _)
    rw [List.isEmpty_nil,cond_true]
    congr 1
  | cons t l =>
    exact zgf n hn (t :: l) hl 2 (1,[]) (1,[])
theorem zbj {X : Type} {v : List TagL} (h : v.length ≤ 100000) (y : Option X) : (bif decide ((v.length + 1) * 32 ≤ 2 ^ 46) && decide (0 < 32 ∧ 32 ≤ 2 ^ 20) then y else none) = y:=by
  rw [decide_eq_true (by omega)]; rfl
theorem zld (n : Nat) (X : Type) (k2 : List TagL→Int→List TagL→Bool→Nat→Option X) (l out : List TagL) (i : Int) (hl : out.length ≤ 100000) (vk0 : Nat) : ∀ (r more : List TagL) (k m : Nat),out.drop k = r→r.length < m→more.length + r.length ≤ 50000 →
    F.zi.L8 n k2 m l out i more true (k : Int) vk0 more.length = k2 l i (more ++ r) true (more ++ r).length:=by
  intro r
  induction r with
  | nil =>
    intro more k m h1 hm hs
    obtain ⟨m,rfl⟩ : ∃ p,m = p + 1:=⟨m - 1,by omega⟩
    rw [F.zi.L8]
    unfold F.zi.L8.step
    dsimp only
    rw [ze (by have:=zj h1; omega),List.append_nil]
  | cons x r ih =>
    intro more k m h1 hm hs
    obtain ⟨m,rfl⟩ : ∃ p,m = p + 1:=⟨m - 1,by simp at hm; omega⟩
    obtain ⟨l1,g1,t1⟩:=zi h1
    simp only [List.length_cons] at hs hm
    rw [F.zi.L8]
    unfold F.zi.L8.step
    dsimp only
    rw [zd (by omega),Bool.not_true,cond_false,zk,g1,za,zbj (by omega),Nat.beq_refl,cond_true,zh (by omega)]
    rw [ih (more ++ [x]) (k + 1) m t1 (by omega) (by simp; omega)]
    simp
theorem zq3 (n : Nat) (hn : 200000 ≤ n) (X : Type) (k2 : List TagL→Int→List TagL→Bool→Nat→Option X) (l out : List TagL) (i : Nat) (t : TagL) (hi : l[i]? = some t) (ht : TagLOK t) (ho : ∀ x ∈ out,TagLOK x) (hl : out.length ≤ 100000) (vk0 : Nat) : ∀ (r more : List TagL) (k m : Nat),out.drop k = r→r.length < m→more.length + r.length ≤ 40000 →
    ∃ p M,F.zi.L8 n k2 m l out (i : Int) more false (k : Int) vk0 more.length = k2 l (i : Int) M p M.length ∧ (bif p then M else M ++ [t]) = more ++ insD t r ∧ M.length ≤ more.length + r.length + 1:=by
  intro r
  induction r with
  | nil =>
    intro more k m h1 hm hs
    obtain ⟨m,rfl⟩ : ∃ p,m = p + 1:=⟨m - 1,by omega⟩
    refine ⟨false,more,?_,rfl,by simp⟩
    rw [F.zi.L8]
    unfold F.zi.L8.step
    dsimp only
    rw [ze (by have:=zj h1; omega)]
  | cons x r ih =>
    intro more k m h1 hm hs
    obtain ⟨m,rfl⟩ : ∃ p,m = p + 1:=⟨m - 1,by simp at hm; omega⟩
    obtain ⟨l1,g1,t1⟩:=zi h1
    simp only [List.length_cons] at hs hm
    have hx : TagLOK x:=ho x (List.mem_of_getElem? g1)
    rw [F.zi.L8]
    unfold F.zi.L8.step
    dsimp only
    rw [zd (by omega),Bool.not_false,cond_true,zk,zk,g1,hi]
    simp only [za,zw9 n x t hx ht hn]
    cases hlt : ltT x t
    · rw [Bool.not_false,cond_true,zk9,zh (by omega)]
      unfold insD
      rw [hlt,if_neg (by simp)]
      by_cases e : x = t
      · rw [decide_eq_true e,Bool.not_true,cond_false,zbj (by omega),Nat.beq_refl,cond_true,if_pos e]
        refine ⟨true,_,zld n X k2 l out i hl vk0 r (more ++ [x]) (k + 1) m t1 (by omega) (by simp; omega),by simp,by simp⟩
      · rw [decide_eq_false e,Bool.not_false,cond_true,zbj (by omega),Nat.beq_refl,cond_true,zbj (by simp; omega),Nat.beq_refl,cond_true,if_neg e]
        refine ⟨true,_,zld n X k2 l out i hl vk0 r ((more ++ [t]) ++ [x]) (k + 1) m t1 (by omega) (by simp; omega),by simp,by simp; omega⟩
    · rw [Bool.not_true,cond_false,zbj (by omega),Nat.beq_refl,cond_true,zh (by omega)]
      obtain ⟨p,M,q1,q2,q3⟩:=ih (more ++ [x]) (k + 1) m t1 (by omega) (by simp; omega)
      refine ⟨p,M,q1,?_,by simp only [List.length_append,List.length_cons,List.length_nil] at q3 ⊢; omega⟩
      rw [q2,insD,hlt,if_pos rfl]
      simp
theorem zq4 (n : Nat) (hn : 200000 ≤ n) (X : Type) (k0 : List TagL→Nat→Option X) (l : List TagL) (hl : l.length ≤ 10000) (hok : ∀ t ∈ l,TagLOK t) : ∀ (r out : List TagL) (i m : Nat),l.drop i = r→r.length < m→out.length ≤ i→(∀ x ∈ out,x ∈ l) →
    F.zi.L3 n k0 m l out (i : Int) out.length = k0 (r.foldl (fun o t => insD t o) out) (r.foldl (fun o t => insD t o) out).length:=by
  intro r
  induction r with
  | nil =>
    intro out i m h1 hm ho hmem
    obtain ⟨m,rfl⟩ : ∃ p,m = p + 1:=⟨m - 1,by omega⟩
    rw [F.zi.L3]
    unfold F.zi.L3.step
    dsimp only
    rw [ze (by have:=zj h1; omega)]
    rfl
  | cons t r ih =>
    intro out i m h1 hm ho hmem
    obtain ⟨m,rfl⟩ : ∃ p,m = p + 1:=⟨m - 1,by simp at hm; omega⟩
    obtain ⟨l1,g1,t1⟩:=zi h1
    have ht : t ∈ l:=List.mem_of_getElem? g1
    rw [F.zi.L3]
    unfold F.zi.L3.step
    dsimp only
    rw [zd (by omega)]
    obtain ⟨p,M,q1,q2,q3⟩:=zq3 n (by omega) X _ l out i t g1 (hok t ht) (fun x hx => hok x (hmem x hx)) (by omega) out.length out [] 0 n rfl (by omega) (by simp; omega)
    refine q1.trans ?_
    simp only [List.length_nil,Nat.zero_add,List.nil_append] at q2 q3
    have hwi : IntKind.wrap .i64 ((i : Int) + 1) = ((i + 1 : Nat) : Int):=zh (by omega)
    have hin : ∀ x ∈ insD t out,x ∈ l:=fun x hx => by
      rcases (zdt t out x).1 hx with rfl | h
      · exact ht
      · exact hmem x h
    rw [List.foldl_cons,hwi]
    cases p
    · rw [Bool.not_false,cond_true,zk,g1,za,zbj (by omega),Nat.beq_refl,cond_true]
      have q2 : M ++ [t] = insD t out:=q2
      have e : M ++ [(t.1,t.2)] = insD t out:=q2
      rw [e]
      exact ih (insD t out) (i + 1) m t1 (by simp at hm; omega) (by have:=zdv t out; omega) hin
    · rw [Bool.not_true,cond_false]
      have q2 : M = insD t out:=q2
      rw [q2]
      exact ih (insD t out) (i + 1) m t1 (by simp at hm; omega) (by have:=zdv t out; omega) hin
theorem zle (n : Nat) (hn : 200000 ≤ n) (l : List TagL) (hl : l.length ≤ 10000) (hok : ∀ t ∈ l,TagLOK t) : F.zi n l = some (normT l):=by
  unfold F.zi
  exact zq4 n hn _ _ l hl hok l [] 0 n rfl (by omega) (by simp) (fun x hx => by cases hx)
end Go.AM
set_option linter.unusedVariables false
set_option linter.unusedSimpArgs false
namespace Go.AM
end Go.AM
set_option linter.unusedVariables false
set_option linter.unusedSimpArgs false
namespace Go.AM
end Go.AM
set_option linter.unusedVariables false
set_option linter.unusedSimpArgs false
namespace Go.AM
theorem zom (n : Nat) (X : Type) (k0 : (List UInt8)→Bool→Int→Int→Option X) (neg : Bool) (c e : Int) : ∀ (j i m : Nat) (v : List UInt8),((i : Int) + j = e ∨ j = 0 ∧ e ≤ i)→j < m→i + j ≤ 1000→v.length + j ≤ 100000→F.zm.L3 n k0 m v (i : Int) neg c e = k0 (v ++ List.replicate j 48) neg c e:=by
  intro j
  induction j with
  | zero =>
    intro i m v h hm hi hv
    obtain ⟨m,rfl⟩ : ∃ q,m = q + 1:=⟨m - 1,by omega⟩
    show F.zm.L3.step n _ k0 _ _ _ _ _ = _
    unfold F.zm.L3.step
    rw [ze (by omega),List.replicate_zero,List.append_nil]
  | succ j ih =>
    intro i m v h hm hi hv
    obtain ⟨m,rfl⟩ : ∃ q,m = q + 1:=⟨m - 1,by omega⟩
    show F.zm.L3.step n (F.zm.L3 n k0 m) k0 _ _ _ _ _ = _
    unfold F.zm.L3.step
    rw [zd (by omega),zd (by rw [zl]; omega),zh (by omega),ih (i + 1) m _ (by omega) (by omega) (by omega) (by simp; omega),List.append_assoc,List.replicate_succ]
    rfl
theorem zt6 (n : Nat) (X : Type) (k2 : (List UInt8)→Bool→Int→Int→Option X) (neg : Bool) (c e : Int) (he : -100 ≤ e ∧ e < 0) : ∀ (j m : Nat) (v : List UInt8),((v.length : Int) + j = 1 - e ∨ j = 0 ∧ 1 - e ≤ v.length)→j < m→v.length + j ≤ 100000→F.zm.L7 n k2 m v neg c e = k2 (List.replicate j 48 ++ v) neg c e:=by
  intro j
  induction j with
  | zero =>
    intro m v h hm hv
    obtain ⟨m,rfl⟩ : ∃ q,m = q + 1:=⟨m - 1,by omega⟩
    show F.zm.L7.step n _ k2 _ _ _ _ = _
    unfold F.zm.L7.step
    rw [zq (by omega),ze (by omega)]
    rfl
  | succ j ih =>
    intro m v h hm hv
    obtain ⟨m,rfl⟩ : ∃ q,m = q + 1:=⟨m - 1,by omega⟩
    show F.zm.L7.step n (F.zm.L7 n k2 m) k2 _ _ _ _ = _
    unfold F.zm.L7.step
    rw [zq (by omega),zd (by omega),zd (by rw [zl]; omega),ih m _ (by simp; omega) (by omega) (by simp; omega),List.replicate_succ',List.append_assoc]
theorem zt7 (n : Nat) (hn : 200000 ≤ n) (neg : Bool) (c : Nat) (hc : c < two64) (e : Int) (he : -18 ≤ e ∧ e ≤ 18) : F.zm n (neg,(c : Int),e,()) = some (textD neg c e):=by
  unfold F.zm
  have hl:=zav hc
  simp only [digits03 n (by omega) c hc,za]
  have hz := zom n (List UInt8) (fun e2_3 e2_b0_0 e2_b0_1 e2_b0_2 =>
        bif decide (e2_b0_2 < (0 : Int)) then
          F.zm.L7 n
            (fun e3_3 e3_b0_0 e3_b0_1 e3_b0_2 =>
              (sub e3_3 (0 : Int) (IntKind.wrap .i64 ((e3_3.length : Int) + e3_b0_2))).bind fun x4 =>
                bif decide (x4.length + 1 ≤ strMax) then
                  (sub e3_3 (IntKind.wrap .i64 ((e3_3.length : Int) + e3_b0_2)) (e3_3.length : Int)).bind fun x5 =>
                    bif decide (((x4 ++ ([46])).length) + x5.length ≤ strMax) then
                      bif e3_b0_0 then
                        bif decide (1 + (((x4 ++ ([46])) ++ x5).length) ≤ strMax) then
                          some (([45]) ++ ((x4 ++ ([46])) ++ x5))
                        else
                          none
                      else
                        some ((x4 ++ ([46])) ++ x5)
                    else
                      none
                else
                  none) n e2_3 e2_b0_0 e2_b0_1 e2_b0_2
        else
        bif e2_b0_0 then
          bif decide (1 + e2_3.length ≤ strMax) then
            some (([45]) ++ e2_3)
          else
            none
        else
          some (e2_3)) neg (c : Int) e e.toNat 0 n (Lib.decDigits c) (by omega) (by omega) (by omega) (by omega)
  refine hz.trans ?_
  unfold textD
  by_cases hE : 0 ≤ e
  · rw [ze (by omega),if_pos hE]
    cases neg
    · rfl
    · rw [cond_true,zd (by rw [zl]; simp; omega)]
      rfl
  · obtain ⟨w1,w2,w3⟩:=ze0 c hc e (by omega)
    have hwl : (List.replicate (1 - e - (Lib.decDigits c).length).toNat (48 : UInt8)).length + (Lib.decDigits c).length = (wideW c e).length:=by unfold wideW; simp
    have hww : List.replicate (1 - e - (Lib.decDigits c).length).toNat (48 : UInt8) ++ Lib.decDigits c = wideW c e:=rfl
    rw [zd (by omega),if_neg hE,show e.toNat = 0 from by omega,List.replicate_zero,List.append_nil,zt6 n _ _ neg (c : Int) e (by omega) (1 - e - (Lib.decDigits c).length).toNat n _ (by omega) (by omega) (by omega),hww]
    generalize wideW c e = w at w1 w2 w3
    have hat : IntKind.wrap .i64 ((w.length : Int) + e) = ((w.length - e.natAbs : Nat) : Int):=by rw [zq (by omega)]; omega
    rw [hat]
    have s1 : sub w 0 ((w.length - e.natAbs : Nat) : Int) = some (w.take (w.length - e.natAbs)):=by
      have:=zai w 0 (w.length - e.natAbs) (by omega) (by omega)
      rw [List.drop_zero] at this
      exact this
    have s2 : sub w ((w.length - e.natAbs : Nat) : Int) (w.length : Int) = some (w.drop (w.length - e.natAbs)):=by
      have:=zai w (w.length - e.natAbs) w.length (by omega) (Nat.le_refl _)
      rw [List.take_length] at this
      exact this
    rw [s1,za,zd (by rw [zl]; simp; omega),s2,za,zd (by rw [zl]; simp; omega)]
    cases neg
    · rfl
    · rw [cond_true,zd (by rw [zl]; simp; omega)]
      rfl
end Go.AM
