/- Part 5 of a proof by the abstract machine. -/
import Derived.Test.YtonhplejlfnkoaaGreatDoorQ4
import Derived.KernelRfl
import Derived.Test.YtonhplejlfnkoaaGreatDoorRows
import Derived.Test.YtonhplejlfnkoaaGreatDoorProg
import Derived.WalkKit
import Derived.BigCall
import Derived.BigGuard
import Derived.Shelf.Spec.BitsCarry
import Derived.Lib.ItoaNum
import Derived.Lib.ItoaLen
import Derived.Lib.AtoiAll
import Derived.Lib.TrimByte
set_option linter.unusedVariables false
set_option maxRecDepth 100000
namespace Go.AM
open Go.Proofs Go.RowKit
open Go.Proofs.YtonhplejlfnkoaaGreatDoor
def SI : World→Prop:=LaidI Tryz.prog Rows.textDecodesRow.laid
def SW : World→Prop:=WOf SI
theorem swErrS {w : World} (h : SW w) : ∃ ev,w.cell? ⟨6,0,none⟩ = some ev ∧ (ev = .nilIface ∨ ∃ te pe,ev = .iface te pe):=by
  obtain ⟨w0,h1,h2,h3⟩:=h
  obtain ⟨ev,a,b⟩:=zgt h1 (by kernel_rfl) 5 rfl (g:=6) (by kernel_rfl) (by kernel_rfl) Tryz.underlying150
  exact ⟨ev,zl9 a h3,b⟩
theorem swErrR {w : World} (h : SW w) : ∃ ev,w.cell? ⟨7,0,none⟩ = some ev ∧ (ev = .nilIface ∨ ∃ te pe,ev = .iface te pe):=by
  obtain ⟨w0,h1,h2,h3⟩:=h
  obtain ⟨ev,a,b⟩:=zgt h1 (by kernel_rfl) 4 rfl (g:=7) (by kernel_rfl) (by kernel_rfl) Tryz.underlying150
  exact ⟨ev,zl9 a h3,b⟩
theorem mixed : Tryz.prog.follows .mixedOrders = true:=by kernel_rfl
def tab : Tree TI:=.node 111 (.node 55 (.node 33 (.node 23 (.node 5 (.node 4 (.one 3 ⟨.int .i64,1,8,false,[(.int .i64 (0 : Int))],some (.int .i64),false⟩) (.one 4 ⟨.bool,1,1,false,[(.bool false)],some .bool,false⟩)) (.node 9 (.one 5 ⟨.int .u8,1,1,false,[(.int .u8 (0 : Int))],some .u8,false⟩) (.node 22 (.one 9 ⟨.str,1,16,false,[(.str [])],some .str,false⟩) (.one 22 ⟨.slice 5,1,24,false,[.sl .u8 [] .full],some (.sl .u8),false⟩)))) (.node 25 (.node 24 (.one 23 ⟨.func,1,8,false,[.nilfn],none,false⟩) (.one 24 ⟨.slice 36,1,24,false,[.sl (.agg [.str,(.int .i64),(.sl (.agg [.bool,(.int .u64),(.int .i64)])),(.int .i64),(.sl (.agg [.str,.str])),(.int .i64)]) [] .full],some (.sl (.agg [.str,(.int .i64),(.sl (.agg [.bool,(.int .u64),(.int .i64)])),(.int .i64),(.sl (.agg [.str,.str])),(.int .i64)])),false⟩)) (.node 27 (.one 25 ⟨.int .i64,1,8,false,[(.int .i64 (0 : Int))],some (.int .i64),false⟩) (.node 28 (.one 27 ⟨.struct [(0,25),(1,3)],2,16,true,[(.int .i64 (0 : Int)),(.int .i64 (0 : Int))],some (.agg [(.int .i64),(.int .i64)]),true⟩) (.one 28 ⟨.other,1,0,false,[.any],none,false⟩))))) (.node 42 (.node 36 (.node 34 (.one 33 ⟨.slice 79,1,24,false,[.sl (.agg [.bool,(.int .u64),(.int .i64)]) [] .full],some (.sl (.agg [.bool,(.int .u64),(.int .i64)])),false⟩) (.one 34 ⟨.slice 76,1,24,false,[.sl (.agg [.str,.str]) [] .full],some (.sl (.agg [.str,.str])),false⟩)) (.node 38 (.one 36 ⟨.struct [(0,9),(1,3),(2,33),(3,3),(4,34),(5,3)],6,88,true,[(.str []),(.int .i64 (0 : Int)),.sl (.agg [.bool,(.int .u64),(.int .i64)]) [] .full,(.int .i64 (0 : Int)),.sl (.agg [.str,.str]) [] .full,(.int .i64 (0 : Int))],some (.agg [.str,(.int .i64),(.sl (.agg [.bool,(.int .u64),(.int .i64)])),(.int .i64),(.sl (.agg [.str,.str])),(.int .i64)]),false⟩) (.node 40 (.one 38 ⟨.other,1,0,false,[.any],none,false⟩) (.one 40 ⟨.other,1,0,false,[.any],none,false⟩)))) (.node 49 (.node 44 (.one 42 ⟨.func,1,8,false,[.nilfn],none,false⟩) (.node 45 (.one 44 ⟨.other,1,0,false,[.any],none,false⟩) (.one 45 ⟨.func,1,8,false,[.nilfn],none,false⟩))) (.node 52 (.one 49 ⟨.arr 2 22,2,48,true,[.sl .u8 [] .full,.sl .u8 [] .full],some (.agg [(.sl .u8),(.sl .u8)]),false⟩) (.node 53 (.one 52 ⟨.slice 9,1,24,false,[.sl .str [] .full],some (.sl .str),false⟩) (.one 53 ⟨.other,1,0,false,[.any],none,false⟩)))))) (.node 77 (.node 67 (.node 61 (.node 59 (.one 55 ⟨.other,1,0,false,[.any],none,false⟩) (.one 59 ⟨.other,1,0,false,[.any],none,false⟩)) (.node 64 (.one 61 ⟨.other,1,0,false,[.any],none,false⟩) (.node 65 (.one 64 ⟨.func,1,8,false,[.nilfn],none,false⟩) (.one 65 ⟨.func,1,8,false,[.nilfn],none,false⟩)))) (.node 71 (.node 68 (.one 67 ⟨.struct [(0,64),(1,65)],2,16,true,[.nilfn,.nilfn],none,false⟩) (.one 68 ⟨.other,1,0,false,[.any],none,false⟩)) (.node 73 (.one 71 ⟨.func,1,8,false,[.nilfn],none,false⟩) (.node 76 (.one 73 ⟨.other,1,0,false,[.any],none,false⟩) (.one 76 ⟨.struct [(0,9),(1,9)],2,32,true,[(.str []),(.str [])],some (.agg [.str,.str]),true⟩))))) (.node 92 (.node 80 (.node 79 (.one 77 ⟨.int .u64,1,8,false,[(.int .u64 (0 : Int))],some (.int .u64),false⟩) (.one 79 ⟨.struct [(0,4),(1,77),(2,3)],3,24,true,[(.bool false),(.int .u64 (0 : Int)),(.int .i64 (0 : Int))],some (.agg [.bool,(.int .u64),(.int .i64)]),true⟩)) (.node 90 (.one 80 ⟨.other,1,0,false,[.any],none,false⟩) (.node 91 (.one 90 ⟨.func,1,8,false,[.nilfn],none,false⟩) (.one 91 ⟨.other,1,0,false,[.any],none,false⟩)))) (.node 102 (.node 96 (.one 92 ⟨.map 3 90,1,8,false,[.any],none,false⟩) (.node 97 (.one 96 ⟨.struct [(0,36)],6,88,true,[(.str []),(.int .i64 (0 : Int)),.sl (.agg [.bool,(.int .u64),(.int .i64)]) [] .full,(.int .i64 (0 : Int)),.sl (.agg [.str,.str]) [] .full,(.int .i64 (0 : Int))],some (.agg [(.agg [.str,(.int .i64),(.sl (.agg [.bool,(.int .u64),(.int .i64)])),(.int .i64),(.sl (.agg [.str,.str])),(.int .i64)])]),false⟩) (.one 97 ⟨.func,1,8,false,[.nilfn],none,false⟩))) (.node 105 (.one 102 ⟨.other,1,0,false,[.any],none,false⟩) (.node 107 (.one 105 ⟨.other,1,0,false,[.any],none,false⟩) (.one 107 ⟨.slice 111,1,24,false,[.sl (.agg [(.int .i64),.str]) [] .full],some (.sl (.agg [(.int .i64),.str])),false⟩))))))) (.node 161 (.node 139 (.node 131 (.node 114 (.node 112 (.one 111 ⟨.struct [(0,3),(1,9)],2,24,true,[(.int .i64 (0 : Int)),(.str [])],some (.agg [(.int .i64),.str]),true⟩) (.one 112 ⟨.ptr,1,8,false,[.nilp],none,false⟩)) (.node 127 (.one 114 ⟨.other,1,0,false,[.any],none,false⟩) (.node 130 (.one 127 ⟨.func,1,8,false,[.nilfn],none,false⟩) (.one 130 ⟨.struct [(0,36)],6,88,true,[(.str []),(.int .i64 (0 : Int)),.sl (.agg [.bool,(.int .u64),(.int .i64)]) [] .full,(.int .i64 (0 : Int)),.sl (.agg [.str,.str]) [] .full,(.int .i64 (0 : Int))],some (.agg [(.agg [.str,(.int .i64),(.sl (.agg [.bool,(.int .u64),(.int .i64)])),(.int .i64),(.sl (.agg [.str,.str])),(.int .i64)])]),false⟩)))) (.node 133 (.node 132 (.one 131 ⟨.struct [(0,23),(1,25)],2,16,true,[.nilfn,(.int .i64 (0 : Int))],none,false⟩) (.one 132 ⟨.arr 6 131,12,96,true,[.nilfn,(.int .i64 (0 : Int)),.nilfn,(.int .i64 (0 : Int)),.nilfn,(.int .i64 (0 : Int)),.nilfn,(.int .i64 (0 : Int)),.nilfn,(.int .i64 (0 : Int)),.nilfn,(.int .i64 (0 : Int))],none,false⟩)) (.node 134 (.one 133 ⟨.slice 4,1,24,false,[.sl .bool [] .full],some (.sl .bool),false⟩) (.node 136 (.one 134 ⟨.other,1,0,false,[.any],none,false⟩) (.one 136 ⟨.func,1,8,false,[.nilfn],none,false⟩))))) (.node 150 (.node 142 (.node 141 (.one 139 ⟨.other,1,0,false,[.any],none,false⟩) (.one 141 ⟨.func,1,8,false,[.nilfn],none,false⟩)) (.node 146 (.one 142 ⟨.other,1,0,false,[.any],none,false⟩) (.node 148 (.one 146 ⟨.ptr,1,8,false,[.nilp],none,false⟩) (.one 148 ⟨.struct [(0,146),(1,22)],2,32,true,[.nilp,.sl .u8 [] .full],none,false⟩)))) (.node 154 (.node 151 (.one 150 ⟨.iface,1,16,false,[(.err false)],none,false⟩) (.node 153 (.one 151 ⟨.other,1,0,false,[.any],none,false⟩) (.one 153 ⟨.func,1,8,false,[.nilfn],none,false⟩))) (.node 157 (.one 154 ⟨.other,1,0,false,[.any],none,false⟩) (.node 159 (.one 157 ⟨.ptr,1,8,false,[.nilp],none,false⟩) (.one 159 ⟨.struct [(0,36),(6,3),(7,3)],8,104,true,[(.str []),(.int .i64 (0 : Int)),.sl (.agg [.bool,(.int .u64),(.int .i64)]) [] .full,(.int .i64 (0 : Int)),.sl (.agg [.str,.str]) [] .full,(.int .i64 (0 : Int)),(.int .i64 (0 : Int)),(.int .i64 (0 : Int))],some (.agg [(.agg [.str,(.int .i64),(.sl (.agg [.bool,(.int .u64),(.int .i64)])),(.int .i64),(.sl (.agg [.str,.str])),(.int .i64)]),(.int .i64),(.int .i64)]),false⟩)))))) (.node 190 (.node 174 (.node 164 (.node 162 (.one 161 ⟨.func,1,8,false,[.nilfn],none,false⟩) (.one 162 ⟨.slice 161,1,24,false,[.nils],none,false⟩)) (.node 167 (.one 164 ⟨.func,1,8,false,[.nilfn],none,false⟩) (.node 169 (.one 167 ⟨.struct [(0,3),(1,9),(2,4)],3,32,true,[(.int .i64 (0 : Int)),(.str []),(.bool false)],some (.agg [(.int .i64),.str,.bool]),true⟩) (.one 169 ⟨.other,1,0,false,[.any],none,false⟩)))) (.node 183 (.node 177 (.one 174 ⟨.func,1,8,false,[.nilfn],none,false⟩) (.node 179 (.one 177 ⟨.other,1,0,false,[.any],none,false⟩) (.one 179 ⟨.other,1,0,false,[.any],none,false⟩))) (.node 185 (.one 183 ⟨.func,1,8,false,[.nilfn],none,false⟩) (.node 187 (.one 185 ⟨.func,1,8,false,[.nilfn],none,false⟩) (.one 187 ⟨.func,1,8,false,[.nilfn],none,false⟩))))) (.node 208 (.node 200 (.node 198 (.one 190 ⟨.func,1,8,false,[.nilfn],none,false⟩) (.one 198 ⟨.arr 2 5,2,2,true,[(.int .u8 (0 : Int)),(.int .u8 (0 : Int))],some (.agg [.u8,.u8]),false⟩)) (.node 201 (.one 200 ⟨.func,1,8,false,[.nilfn],none,false⟩) (.node 207 (.one 201 ⟨.arr 6 9,6,96,true,[(.str []),(.str []),(.str []),(.str []),(.str []),(.str [])],some (.agg [.str,.str,.str,.str,.str,.str]),false⟩) (.one 207 ⟨.func,1,8,false,[.nilfn],none,false⟩)))) (.node 211 (.node 209 (.one 208 ⟨.struct [(0,9),(1,207)],2,24,true,[(.str []),.nilfn],none,false⟩) (.node 210 (.one 209 ⟨.arr 3 208,6,72,true,[(.str []),.nilfn,(.str []),.nilfn,(.str []),.nilfn],none,false⟩) (.one 210 ⟨.func,1,8,false,[.nilfn],none,false⟩))) (.node 221 (.one 211 ⟨.other,1,0,false,[.any],none,false⟩) (.node 222 (.one 221 ⟨.func,1,8,false,[.nilfn],none,false⟩) (.one 222 ⟨.other,1,0,false,[.any],none,false⟩)))))))
theorem zk : tab.all (tiOK Tryz.prog) = true:=by kernel_rfl
theorem ok208 (n : Nat) : FnOK Tryz.prog SW 208 [.str,.str] (.one (.int .i64)) (fun x => O.index1 n x.1 x.2.1):=zou (enters Tryz.func208 (by kernel_rfl) (by decide)) Tryz.stringslite_Index_one n
noncomputable def cx170 (X : Type) (n : Nat) : Cx X:=mkCx tab.get [(170,Tryz.f170)] [(208,orcOf [.str,.str] (.one (.int .i64)) (fun x => O.index1 n x.1 x.2.1))] [] [] [] []
theorem zqn (X : Type) (n : Nat) : CxOK Tryz.prog SW (cx170 X n):=zi mixed (tabOK zk) ⟨⟨Tryz.func170,by decide⟩,trivial⟩ ⟨zb (ok208 n),trivial⟩ ⟨zg (fun _ => rfl) (by kernel_rfl) (castP (by kernel_rfl) (show True from trivial)) (castP (by kernel_rfl) (show True from trivial)),trivial⟩ trivial
theorem ok170 (n : Nat) : FnOK Tryz.prog SW 170 [.str,.str] (.many [.str,.str,.bool]) (fun x => F.zaz n x.1 x.2.1):=zh WOf.st (zqn _ n) (d:=8) (fun x => by kernel_rfl)
noncomputable def cx113 (X : Type) (n : Nat) : Cx X:=mkCx tab.get [(113,Tryz.f113)] [(170,orcOf [.str,.str] (.many [.str,.str,.bool]) (fun x => F.zaz n x.1 x.2.1))] [] [] [] []
theorem zqo (X : Type) (n : Nat) : CxOK Tryz.prog SW (cx113 X n):=zi mixed (tabOK zk) ⟨⟨Tryz.func113,by decide⟩,trivial⟩ ⟨zb (ok170 n),trivial⟩ ⟨zg (fun _ => rfl) (by kernel_rfl) (castP (by kernel_rfl) (show True from trivial)) (castP (by kernel_rfl) (show True from trivial)),trivial⟩ trivial
theorem ok113 (n : Nat) : FnOK Tryz.prog SW 113 [.str,.str] (.many [.str,.str,.bool]) (fun x => F.zah n x.1 x.2.1):=zh WOf.st (zqo _ n) (d:=8) (fun x => by kernel_rfl)
noncomputable def cx209 (X : Type) (n : Nat) : Cx X:=mkCx tab.get [(209,Tryz.f209)] [] [] [] [] []
theorem zqp (X : Type) (n : Nat) : CxOK Tryz.prog SW (cx209 X n):=zi mixed (tabOK zk) ⟨⟨Tryz.func209,by decide⟩,trivial⟩ trivial ⟨zg (fun _ => rfl) (by kernel_rfl) (castP (by kernel_rfl) (show True from trivial)) (castP (by kernel_rfl) (show True from trivial)),trivial⟩ trivial
theorem ok209 (n : Nat) : FnOK Tryz.prog SW 209 [(.int .i64)] (.one .bool) (fun x => F.zbh n x.1):=zh WOf.st (zqp _ n) (d:=8) (fun x => by kernel_rfl)
noncomputable def cx246 (X : Type) (n : Nat) : Cx X:=mkCx tab.get [(246,Tryz.f246)] [] [] [] [] []
theorem zqq (X : Type) (n : Nat) : CxOK Tryz.prog SW (cx246 X n):=zi mixed (tabOK zk) ⟨⟨Tryz.func246,by decide⟩,trivial⟩ trivial ⟨zg (fun _ => rfl) (by kernel_rfl) (castP (by kernel_rfl) (show True from trivial)) (castP (by kernel_rfl) (show True from trivial)),trivial⟩ trivial
theorem ok246 (n : Nat) : FnOK Tryz.prog SW 246 [(.int .u8),(.int .u8),(.int .u8)] (.one .bool) (fun x => F.zao n x.1 x.2.1 x.2.2.1):=zh WOf.st (zqq _ n) (d:=8) (fun x => by kernel_rfl)
noncomputable def cx210 (X : Type) (n : Nat) : Cx X:=mkCx tab.get [(210,Tryz.f210)] [(246,orcOf [(.int .u8),(.int .u8),(.int .u8)] (.one .bool) (fun x => F.zao n x.1 x.2.1 x.2.2.1))] [] [] [] []
theorem zqr (X : Type) (n : Nat) : CxOK Tryz.prog SW (cx210 X n):=zi mixed (tabOK zk) ⟨⟨Tryz.func210,by decide⟩,trivial⟩ ⟨zb (ok246 n),trivial⟩ ⟨zg (fun _ => rfl) (by kernel_rfl) (castP (by kernel_rfl) (show True from trivial)) (castP (by kernel_rfl) (show True from trivial)),trivial⟩ trivial
theorem ok210 (n : Nat) : FnOK Tryz.prog SW 210 [(.int .i64),(.int .u8)] (.one .bool) (fun x => F.zbk n x.1 x.2.1):=zh WOf.st (zqr _ n) (d:=8) (fun x => by kernel_rfl)
def F.z8.L4.head : Shape:=⟨[(0,(.int .i64)),(1,.str),(11,(.int .i64)),(12,(.int .i64))],[],[],[],[],0,0,0⟩
def F.z8.L4.e0 : Shape:=⟨[],[],[],[],[],0,0,0⟩
def F.z8.L4.er : Shape:=⟨[(4,(.int .i64)),(5,(.int .i64))],[],[],[],[],0,0,0⟩
noncomputable def F.z8.L4.f {X : Type} (n m : Nat) (ks : Ks X) (s : F.z8.L4.head.den) : Option X:=F.z8.L4 n (fun (_ : Unit) => ks.ex 0 (F.z8.L4.e0.e ((),(),(),())) (F.z8.L4.e0.h ((),(),(),()))) (fun q4 q5 => ks.ret (F.z8.L4.er.e ((q4,q5,()),(),(),())) (F.z8.L4.er.h ((q4,q5,()),(),(),()))) m s.1.1 s.1.2.1 s.1.2.2.1 s.1.2.2.2.1
noncomputable def F.z8.L4.li (X : Type) (n : Nat) : LoopI X:=⟨8,⟨0,0,0⟩,F.z8.L4.head,[(0,F.z8.L4.e0)],[F.z8.L4.er],F.z8.L4.f n n⟩
noncomputable def cx171 (X : Type) (n : Nat) : Cx X:=mkCx tab.get [(171,Tryz.f171)] [(209,orcOf [(.int .i64)] (.one .bool) (fun x => F.zbh n x.1)),(210,orcOf [(.int .i64),(.int .u8)] (.one .bool) (fun x => F.zbk n x.1 x.2.1))] [(171,4,[F.z8.L4.li X n])] [] [] []
theorem F.z8.L4.ok (X : Type) (n : Nat) : LoopOK (cx171 X n) 171 Tryz.f171.ntmps (loopNo Tryz.f171 0) (F.z8.L4.li X n):=
  ⟨F.z8.L4.f n,n,fun _ _ => rfl,fun _ _ => rfl,fun m ks s => by kernel_rfl⟩
theorem zqs (X : Type) (n : Nat) : CxOK Tryz.prog SW (cx171 X n):=zi mixed (tabOK zk) ⟨⟨Tryz.func171,by decide⟩,trivial⟩ ⟨zb (ok209 n),
  zb (ok210 n),trivial⟩ ⟨zg (fun _ => rfl) (by kernel_rfl) (castP (by kernel_rfl) (show (LoopOK (cx171 X n) 171 Tryz.f171.ntmps (loopNo Tryz.f171 0) (F.z8.L4.li X n) ∧ True) ∧ True from ⟨⟨F.z8.L4.ok X n,trivial⟩,trivial⟩)) (castP (by kernel_rfl) (show True from trivial)),trivial⟩ trivial
theorem ok171 (n : Nat) : FnOK Tryz.prog SW 171 [(.int .i64),.str] (.many [(.int .i64),(.int .i64)]) (fun x => F.z8 n x.1 x.2.1):=zh WOf.st (zqs _ n) (d:=8) (fun x => by kernel_rfl)
noncomputable def cx114 (X : Type) (n : Nat) : Cx X:=mkCx tab.get [(114,Tryz.f114)] [(171,orcOf [(.int .i64),.str] (.many [(.int .i64),(.int .i64)]) (fun x => F.z8 n x.1 x.2.1))] [] [] [] []
theorem zqt (X : Type) (n : Nat) : CxOK Tryz.prog SW (cx114 X n):=zi mixed (tabOK zk) ⟨⟨Tryz.func114,by decide⟩,trivial⟩ ⟨zb (ok171 n),trivial⟩ ⟨zg (fun _ => rfl) (by kernel_rfl) (castP (by kernel_rfl) (show True from trivial)) (castP (by kernel_rfl) (show True from trivial)),trivial⟩ trivial
theorem ok114 (n : Nat) : FnOK Tryz.prog SW 114 [(.int .i64),.str,(.int .i64),(.int .i64)] (.one (.agg [(.int .i64),(.int .i64)])) (fun x => F.zan n x.1 x.2.1 x.2.2.1 x.2.2.2.1):=zh WOf.st (zqt _ n) (d:=8) (fun x => by kernel_rfl)
noncomputable def cx115 (X : Type) (n : Nat) : Cx X:=mkCx tab.get [(115,Tryz.f115)] [] [] [] [] []
theorem zqu (X : Type) (n : Nat) : CxOK Tryz.prog SW (cx115 X n):=zi mixed (tabOK zk) ⟨⟨Tryz.func115,by decide⟩,trivial⟩ trivial ⟨zg (fun _ => rfl) (by kernel_rfl) (castP (by kernel_rfl) (show True from trivial)) (castP (by kernel_rfl) (show True from trivial)),trivial⟩ trivial
theorem ok115 (n : Nat) : FnOK Tryz.prog SW 115 [(.int .i64),(.int .i64)] (.many [(.agg [.str,(.int .i64),(.sl (.agg [.bool,(.int .u64),(.int .i64)]) .unk),(.int .i64),(.sl (.agg [.str,.str]) .unk),(.int .i64)]),(.agg [(.int .i64),(.int .i64)])]) (fun x => F.zap n x.1 x.2.1):=zh WOf.st (zqu _ n) (d:=8) (fun x => by kernel_rfl)
theorem ok190 (n : Nat) : FnOK Tryz.prog SW 190 [(.int .u64),(.int .u64)] (.many [(.int .u64),(.int .u64)]) (fun x => O.mul64 n x.1 x.2.1):=zql (enters Tryz.func190 (by kernel_rfl) (by decide)) Tryz.bits_Mul64 n
theorem ok191 (n : Nat) : FnOK Tryz.prog SW 191 [(.int .u64),(.int .u64),(.int .u64)] (.many [(.int .u64),(.int .u64)]) (fun x => O.add64 n x.1 x.2.1 x.2.2.1):=zqm (fun x y c hx hy hc w => by rw [run_callFunc_extern Tryz.func191 (by kernel_rfl) (by kernel_rfl) (by kernel_rfl) (e:=Go.add64Entry) (by kernel_rfl),Go.run_add64 x y c (by omega) (by omega) (by omega) (by omega)]; simp only [Result.andThen]; congr 5 <;> omega) n
noncomputable def cx134 (X : Type) (n : Nat) : Cx X:=mkCx tab.get [(134,Tryz.f134)] [(190,orcOf [(.int .u64),(.int .u64)] (.many [(.int .u64),(.int .u64)]) (fun x => O.mul64 n x.1 x.2.1)),(191,orcOf [(.int .u64),(.int .u64),(.int .u64)] (.many [(.int .u64),(.int .u64)]) (fun x => O.add64 n x.1 x.2.1 x.2.2.1))] [] [] [] []
theorem zqv (X : Type) (n : Nat) : CxOK Tryz.prog SW (cx134 X n):=zi mixed (tabOK zk) ⟨⟨Tryz.func134,by decide⟩,trivial⟩ ⟨zb (ok190 n),
  zb (ok191 n),trivial⟩ ⟨zg (fun _ => rfl) (by kernel_rfl) (castP (by kernel_rfl) (show True from trivial)) (castP (by kernel_rfl) (show True from trivial)),trivial⟩ trivial
theorem ok134 (n : Nat) : FnOK Tryz.prog SW 134 [(.int .u64),(.int .u64)] (.many [(.int .u64),.bool]) (fun x => F.za5 n x.1 x.2.1):=zh WOf.st (zqv _ n) (d:=8) (fun x => by kernel_rfl)
def F.zj.L3.head : Shape:=⟨[(1,(.const (.ref 0 0))),(2,(.const (.ref 1 0)))],[[.bool,(.int .u64),(.int .i64)],[.bool,(.int .u64),(.int .i64)]],[],[],[],2,0,0⟩
def F.zj.L3.e0 : Shape:=⟨[(1,(.const (.ref 0 0))),(2,(.const (.ref 1 0)))],[[.bool,(.int .u64),(.int .i64)],[.bool,(.int .u64),(.int .i64)]],[],[],[],2,0,0⟩
noncomputable def F.zj.L3.f {X : Type} (n m : Nat) (ks : Ks X) (s : F.zj.L3.head.den) : Option X:=F.zj.L3 n (fun qb0_0 qb0_1 qb0_2 qb1_0 qb1_1 qb1_2 => ks.ex 0 (F.zj.L3.e0.e (((),(),()),((qb0_0,qb0_1,qb0_2,()),(qb1_0,qb1_1,qb1_2,()),()),(),())) (F.zj.L3.e0.h (((),(),()),((qb0_0,qb0_1,qb0_2,()),(qb1_0,qb1_1,qb1_2,()),()),(),()))) m s.2.1.1.1 s.2.1.1.2.1 s.2.1.1.2.2.1 s.2.1.2.1.1 s.2.1.2.1.2.1 s.2.1.2.1.2.2.1
noncomputable def F.zj.L3.li (X : Type) (n : Nat) : LoopI X:=⟨8,⟨0,0,0⟩,F.zj.L3.head,[(0,F.zj.L3.e0)],[],F.zj.L3.f n n⟩
def F.zj.L5.head : Shape:=⟨[(1,(.const (.ref 0 0))),(2,(.const (.ref 1 0)))],[[.bool,(.int .u64),(.int .i64)],[.bool,(.int .u64),(.int .i64)]],[],[],[],2,0,0⟩
def F.zj.L5.e2 : Shape:=⟨[(1,(.const (.ref 0 0))),(2,(.const (.ref 1 0)))],[[.bool,(.int .u64),(.int .i64)],[.bool,(.int .u64),(.int .i64)]],[],[],[],2,0,0⟩
def F.zj.L5.er : Shape:=⟨[(2,(.const (.ref 1 0))),(3,(.int .i64))],[[.bool,(.int .u64),(.int .i64)],[.bool,(.int .u64),(.int .i64)]],[],[],[],2,0,0⟩
noncomputable def F.zj.L5.f {X : Type} (n m : Nat) (ks : Ks X) (s : F.zj.L5.head.den) : Option X:=F.zj.L5 n (fun qb0_0 qb0_1 qb0_2 qb1_0 qb1_1 qb1_2 => ks.ex 2 (F.zj.L5.e2.e (((),(),()),((qb0_0,qb0_1,qb0_2,()),(qb1_0,qb1_1,qb1_2,()),()),(),())) (F.zj.L5.e2.h (((),(),()),((qb0_0,qb0_1,qb0_2,()),(qb1_0,qb1_1,qb1_2,()),()),(),()))) (fun q3 qb0_0 qb0_1 qb0_2 qb1_0 qb1_1 qb1_2 => ks.ret (F.zj.L5.er.e (((),q3,()),((qb0_0,qb0_1,qb0_2,()),(qb1_0,qb1_1,qb1_2,()),()),(),())) (F.zj.L5.er.h (((),q3,()),((qb0_0,qb0_1,qb0_2,()),(qb1_0,qb1_1,qb1_2,()),()),(),()))) m s.2.1.1.1 s.2.1.1.2.1 s.2.1.1.2.2.1 s.2.1.2.1.1 s.2.1.2.1.2.1 s.2.1.2.1.2.2.1
noncomputable def F.zj.L5.li (X : Type) (n : Nat) : LoopI X:=⟨8,⟨0,0,0⟩,F.zj.L5.head,[(2,F.zj.L5.e2)],[F.zj.L5.er],F.zj.L5.f n n⟩
noncomputable def cx67 (X : Type) (n : Nat) : Cx X:=mkCx tab.get [(67,Tryz.f67)] [(134,orcOf [(.int .u64),(.int .u64)] (.many [(.int .u64),.bool]) (fun x => F.za5 n x.1 x.2.1))] [(67,3,[F.zj.L3.li X n]),(67,5,[F.zj.L5.li X n])] [] [] []
theorem F.zj.L3.ok (X : Type) (n : Nat) : LoopOK (cx67 X n) 67 Tryz.f67.ntmps (loopNo Tryz.f67 0) (F.zj.L3.li X n):=
  ⟨F.zj.L3.f n,n,fun _ _ => rfl,fun _ _ => rfl,fun m ks s => by kernel_rfl⟩
theorem F.zj.L5.ok (X : Type) (n : Nat) : LoopOK (cx67 X n) 67 Tryz.f67.ntmps (loopNo Tryz.f67 1) (F.zj.L5.li X n):=
  ⟨F.zj.L5.f n,n,fun _ _ => rfl,fun _ _ => rfl,fun m ks s => by kernel_rfl⟩
theorem zs5 (X : Type) (n : Nat) : CxOK Tryz.prog SW (cx67 X n):=zi mixed (tabOK zk) ⟨⟨Tryz.func67,by decide⟩,trivial⟩ ⟨zb (ok134 n),trivial⟩ ⟨zg (fun _ => rfl) (by kernel_rfl) (castP (by kernel_rfl) (show (LoopOK (cx67 X n) 67 Tryz.f67.ntmps (loopNo Tryz.f67 0) (F.zj.L3.li X n) ∧ True) ∧ (LoopOK (cx67 X n) 67 Tryz.f67.ntmps (loopNo Tryz.f67 1) (F.zj.L5.li X n) ∧ True) ∧ True from ⟨⟨F.zj.L3.ok X n,trivial⟩,⟨F.zj.L5.ok X n,trivial⟩,trivial⟩)) (castP (by kernel_rfl) (show True from trivial)),trivial⟩ trivial
theorem ok67 (n : Nat) : FnOK Tryz.prog SW 67 [(.agg [.bool,(.int .u64),(.int .i64)])] (.many [(.agg [.bool,(.int .u64),(.int .i64)]),(.int .i64)]) (fun x => F.zj n x.1):=zh WOf.st (zs5 _ n) (d:=8) (fun x => by kernel_rfl)
theorem ok169 (n : Nat) : FnOK Tryz.prog SW 169 [.str,.str] (.one .str) (fun x => O.trimR n x.1 x.2.1):=zqj (enters Tryz.func169 (by kernel_rfl) (by decide)) Tryz.strings_TrimRight_one n
noncomputable def cx175 (X : Type) (n : Nat) : Cx X:=mkCx tab.get [(175,Tryz.f175)] [] [] [] [] []
theorem zqw (X : Type) (n : Nat) : CxOK Tryz.prog SW (cx175 X n):=zi mixed (tabOK zk) ⟨⟨Tryz.func175,by decide⟩,trivial⟩ trivial ⟨zg (fun _ => rfl) (by kernel_rfl) (castP (by kernel_rfl) (show True from trivial)) (castP (by kernel_rfl) (show True from trivial)),trivial⟩ trivial
theorem ok175 (n : Nat) : FnOK Tryz.prog SW 175 [.str,.str] (.one .bool) (fun x => F.zal n x.1 x.2.1):=zh WOf.st (zqw _ n) (d:=8) (fun x => by kernel_rfl)
noncomputable def cx118 (X : Type) (n : Nat) : Cx X:=mkCx tab.get [(118,Tryz.f118)] [(175,orcOf [.str,.str] (.one .bool) (fun x => F.zal n x.1 x.2.1))] [] [] [] []
theorem zqx (X : Type) (n : Nat) : CxOK Tryz.prog SW (cx118 X n):=zi mixed (tabOK zk) ⟨⟨Tryz.func118,by decide⟩,trivial⟩ ⟨zb (ok175 n),trivial⟩ ⟨zg (fun _ => rfl) (by kernel_rfl) (castP (by kernel_rfl) (show True from trivial)) (castP (by kernel_rfl) (show True from trivial)),trivial⟩ trivial
theorem ok118 (n : Nat) : FnOK Tryz.prog SW 118 [.str,.str] (.one .bool) (fun x => F.zai n x.1 x.2.1):=zh WOf.st (zqx _ n) (d:=8) (fun x => by kernel_rfl)
def F.zad.L2_dec_look_1.head : Shape:=⟨[(0,(.const (.ref 2 0))),(1,(.const (.ref 0 0))),(3,(.int .i64))],[[.str],[(.int .i64),(.int .i64)],[(.int .i64)]],[],[],[],3,0,0⟩
def F.zad.L2_dec_look_1.e0 : Shape:=⟨[(0,(.const (.ref 2 0))),(3,(.int .i64))],[[.str],[(.int .i64),(.int .i64)],[(.int .i64)]],[],[],[],3,0,0⟩
noncomputable def F.zad.L2_dec_look_1.f {X : Type} (n m : Nat) (ks : Ks X) (s : F.zad.L2_dec_look_1.head.den) : Option X:=F.zad.L2_dec_look_1 n (fun q3 qb0_0 qb1_0 qb1_1 qb2_0 => ks.ex 0 (F.zad.L2_dec_look_1.e0.e (((),q3,()),((qb0_0,()),(qb1_0,qb1_1,()),(qb2_0,()),()),(),())) (F.zad.L2_dec_look_1.e0.h (((),q3,()),((qb0_0,()),(qb1_0,qb1_1,()),(qb2_0,()),()),(),()))) m s.1.2.2.1 s.2.1.1.1 s.2.1.2.1.1 s.2.1.2.1.2.1 s.2.1.2.2.1.1
noncomputable def F.zad.L2_dec_look_1.li (X : Type) (n : Nat) : LoopI X:=⟨7,⟨3,0,0⟩,F.zad.L2_dec_look_1.head,[(0,F.zad.L2_dec_look_1.e0)],[],F.zad.L2_dec_look_1.f n n⟩
noncomputable def cx172 (X : Type) (n : Nat) : Cx X:=mkCx tab.get [(172,Tryz.f172),(211,Tryz.f211)] [(118,orcOf [.str,.str] (.one .bool) (fun x => F.zai n x.1 x.2.1))] [(211,2,[F.zad.L2_dec_look_1.li X n])] [] [] []
theorem F.zad.L2_dec_look_1.ok (X : Type) (n : Nat) : LoopOK (cx172 X n) 211 Tryz.f211.ntmps (loopNo Tryz.f211 0) (F.zad.L2_dec_look_1.li X n):=
  ⟨F.zad.L2_dec_look_1.f n,n,fun _ _ => rfl,fun _ _ => rfl,fun m ks s => by kernel_rfl⟩
theorem zqy (X : Type) (n : Nat) : CxOK Tryz.prog SW (cx172 X n):=zi mixed (tabOK zk) ⟨⟨Tryz.func172,by decide⟩,
  ⟨Tryz.func211,by decide⟩,trivial⟩ ⟨zb (ok118 n),trivial⟩ ⟨zg (fun _ => rfl) (by kernel_rfl) (castP (by kernel_rfl) (show True from trivial)) (castP (by kernel_rfl) (show True from trivial)),
  zg (fun _ => rfl) (by kernel_rfl) (castP (by kernel_rfl) (show (LoopOK (cx172 X n) 211 Tryz.f211.ntmps (loopNo Tryz.f211 0) (F.zad.L2_dec_look_1.li X n) ∧ True) ∧ True from ⟨⟨F.zad.L2_dec_look_1.ok X n,trivial⟩,trivial⟩)) (castP (by kernel_rfl) (show True from trivial)),trivial⟩ trivial
theorem ok172 (n : Nat) : FnOK Tryz.prog SW 172 [.str] (.one (.agg [(.int .i64),(.int .i64)])) (fun x => F.zad n x.1):=zh WOf.st (zqy _ n) (d:=8) (fun x => by kernel_rfl)
noncomputable def cx212 (X : Type) (n : Nat) : Cx X:=mkCx tab.get [(212,Tryz.f212)] [(175,orcOf [.str,.str] (.one .bool) (fun x => F.zal n x.1 x.2.1))] [] [] [] []
theorem zqz (X : Type) (n : Nat) : CxOK Tryz.prog SW (cx212 X n):=zi mixed (tabOK zk) ⟨⟨Tryz.func212,by decide⟩,trivial⟩ ⟨zb (ok175 n),trivial⟩ ⟨zg (fun _ => rfl) (by kernel_rfl) (castP (by kernel_rfl) (show True from trivial)) (castP (by kernel_rfl) (show True from trivial)),trivial⟩ trivial
theorem ok212 (n : Nat) : FnOK Tryz.prog SW 212 [.str,.str] (.many [.str,.bool]) (fun x => F.zar n x.1 x.2.1):=zh WOf.st (zqz _ n) (d:=8) (fun x => by kernel_rfl)
noncomputable def cx173 (X : Type) (n : Nat) : Cx X:=mkCx tab.get [(173,Tryz.f173)] [(212,orcOf [.str,.str] (.many [.str,.bool]) (fun x => F.zar n x.1 x.2.1))] [] [] [] []
theorem zq0 (X : Type) (n : Nat) : CxOK Tryz.prog SW (cx173 X n):=zi mixed (tabOK zk) ⟨⟨Tryz.func173,by decide⟩,trivial⟩ ⟨zb (ok212 n),trivial⟩ ⟨zg (fun _ => rfl) (by kernel_rfl) (castP (by kernel_rfl) (show True from trivial)) (castP (by kernel_rfl) (show True from trivial)),trivial⟩ trivial
theorem ok173 (n : Nat) : FnOK Tryz.prog SW 173 [.str,.str] (.many [.str,.bool]) (fun x => F.zaj n x.1 x.2.1):=zh WOf.st (zq0 _ n) (d:=8) (fun x => by kernel_rfl)
theorem ok174 (n : Nat) : FnOK Tryz.prog SW 174 [.str,.str] (.one .str) (fun x => O.trimL n x.1 x.2.1):=zqk (enters Tryz.func174 (by kernel_rfl) (by decide)) Tryz.strings_TrimLeft_one n
def F.z7.L14.head : Shape:=⟨[(2,(.const (.ref 0 0))),(3,(.const (.ref 1 0))),(10,.str),(11,(.const (.ref 3 0))),(66,(.int .i64)),(67,(.int .i64))],[[.bool,(.int .u64),(.int .i64)],[(.int .i64),(.int .i64)],[(.int .i64),(.int .i64)],[.bool,(.int .u64),(.int .i64)]],[],[],[],4,0,0⟩
def F.z7.L14.e0 : Shape:=⟨[(2,(.const (.ref 0 0))),(3,(.const (.ref 1 0))),(11,(.const (.ref 3 0)))],[[.bool,(.int .u64),(.int .i64)],[(.int .i64),(.int .i64)],[(.int .i64),(.int .i64)],[.bool,(.int .u64),(.int .i64)]],[],[],[],4,0,0⟩
noncomputable def F.z7.L14.f {X : Type} (n m : Nat) (ks : Ks X) (s : F.z7.L14.head.den) : Option X:=F.z7.L14 n (fun qb0_0 qb0_1 qb0_2 qb1_0 qb1_1 qb2_0 qb2_1 qb3_0 qb3_1 qb3_2 => ks.ex 0 (F.z7.L14.e0.e (((),(),(),()),((qb0_0,qb0_1,qb0_2,()),(qb1_0,qb1_1,()),(qb2_0,qb2_1,()),(qb3_0,qb3_1,qb3_2,()),()),(),())) (F.z7.L14.e0.h (((),(),(),()),((qb0_0,qb0_1,qb0_2,()),(qb1_0,qb1_1,()),(qb2_0,qb2_1,()),(qb3_0,qb3_1,qb3_2,()),()),(),()))) m s.1.2.2.1 s.1.2.2.2.2.1 s.1.2.2.2.2.2.1 s.2.1.1.1 s.2.1.1.2.1 s.2.1.1.2.2.1 s.2.1.2.1.1 s.2.1.2.1.2.1 s.2.1.2.2.1.1 s.2.1.2.2.1.2.1 s.2.1.2.2.2.1.1 s.2.1.2.2.2.1.2.1 s.2.1.2.2.2.1.2.2.1
noncomputable def F.z7.L14.li (X : Type) (n : Nat) : LoopI X:=⟨8,⟨0,0,0⟩,F.z7.L14.head,[(0,F.z7.L14.e0)],[],F.z7.L14.f n n⟩
noncomputable def cx116 (X : Type) (n : Nat) : Cx X:=mkCx tab.get [(116,Tryz.f116)] [(67,orcOf [(.agg [.bool,(.int .u64),(.int .i64)])] (.many [(.agg [.bool,(.int .u64),(.int .i64)]),(.int .i64)]) (fun x => F.zj n x.1)),(113,orcOf [.str,.str] (.many [.str,.str,.bool]) (fun x => F.zah n x.1 x.2.1)),(134,orcOf [(.int .u64),(.int .u64)] (.many [(.int .u64),.bool]) (fun x => F.za5 n x.1 x.2.1)),(169,orcOf [.str,.str] (.one .str) (fun x => O.trimR n x.1 x.2.1)),(172,orcOf [.str] (.one (.agg [(.int .i64),(.int .i64)])) (fun x => F.zad n x.1)),(173,orcOf [.str,.str] (.many [.str,.bool]) (fun x => F.zaj n x.1 x.2.1)),(174,orcOf [.str,.str] (.one .str) (fun x => O.trimL n x.1 x.2.1))] [(116,14,[F.z7.L14.li X n])] [] [(116,3,[(1,2)])] []
theorem F.z7.L14.ok (X : Type) (n : Nat) : LoopOK (cx116 X n) 116 Tryz.f116.ntmps (loopNo Tryz.f116 0) (F.z7.L14.li X n):=
  ⟨F.z7.L14.f n,n,fun _ _ => rfl,fun _ _ => rfl,fun m ks s => by kernel_rfl⟩
theorem zq1 (X : Type) (n : Nat) : CxOK Tryz.prog SW (cx116 X n):=zi mixed (tabOK zk) ⟨⟨Tryz.func116,by decide⟩,trivial⟩ ⟨zb (ok67 n),
  zb (ok113 n),
  zb (ok134 n),
  zb (ok169 n),
  zb (ok172 n),
  zb (ok173 n),
  zb (ok174 n),trivial⟩ ⟨zg (fun _ => rfl) (by kernel_rfl) (castP (by kernel_rfl) (show (LoopOK (cx116 X n) 116 Tryz.f116.ntmps (loopNo Tryz.f116 0) (F.z7.L14.li X n) ∧ True) ∧ True from ⟨⟨F.z7.L14.ok X n,trivial⟩,trivial⟩)) (castP (by kernel_rfl) (show True from trivial)),trivial⟩ trivial
theorem ok116 (n : Nat) : FnOK Tryz.prog SW 116 [.str] (.many [(.agg [.bool,(.int .u64),(.int .i64)]),(.agg [(.int .i64),(.int .i64)])]) (fun x => F.z7 n x.1):=zh WOf.st (zq1 _ n) (d:=8) (fun x => by kernel_rfl)
theorem ok109 (n : Nat) : FnOK Tryz.prog SW 109 [(.int .i64)] (.many [.str,(.int .i64)]) (fun x => O.word n x.1):=zs4 (enters Tryz.func109 (by kernel_rfl) (by decide)) Tryz.statsd_Word n
def F.zt.L2.head : Shape:=⟨[(0,.str),(4,(.int .i64))],[],[],[],[],0,0,0⟩
def F.zt.L2.e0 : Shape:=⟨[],[],[],[],[],0,0,0⟩
def F.zt.L2.er : Shape:=⟨[(2,(.int .i64)),(3,(.int .i64))],[],[],[],[],0,0,0⟩
noncomputable def F.zt.L2.f {X : Type} (n m : Nat) (ks : Ks X) (s : F.zt.L2.head.den) : Option X:=F.zt.L2 n (fun (_ : Unit) => ks.ex 0 (F.zt.L2.e0.e ((),(),(),())) (F.zt.L2.e0.h ((),(),(),()))) (fun q2 q3 => ks.ret (F.zt.L2.er.e ((q2,q3,()),(),(),())) (F.zt.L2.er.h ((q2,q3,()),(),(),()))) m s.1.1 s.1.2.1
noncomputable def F.zt.L2.li (X : Type) (n : Nat) : LoopI X:=⟨8,⟨0,0,0⟩,F.zt.L2.head,[(0,F.zt.L2.e0)],[F.zt.L2.er],F.zt.L2.f n n⟩
noncomputable def cx117 (X : Type) (n : Nat) : Cx X:=mkCx tab.get [(117,Tryz.f117)] [(109,orcOf [(.int .i64)] (.many [.str,(.int .i64)]) (fun x => O.word n x.1))] [(117,2,[F.zt.L2.li X n])] [] [] []
theorem F.zt.L2.ok (X : Type) (n : Nat) : LoopOK (cx117 X n) 117 Tryz.f117.ntmps (loopNo Tryz.f117 0) (F.zt.L2.li X n):=
  ⟨F.zt.L2.f n,n,fun _ _ => rfl,fun _ _ => rfl,fun m ks s => by kernel_rfl⟩
theorem zq2 (X : Type) (n : Nat) : CxOK Tryz.prog SW (cx117 X n):=zi mixed (tabOK zk) ⟨⟨Tryz.func117,by decide⟩,trivial⟩ ⟨zb (ok109 n),trivial⟩ ⟨zg (fun _ => rfl) (by kernel_rfl) (castP (by kernel_rfl) (show (LoopOK (cx117 X n) 117 Tryz.f117.ntmps (loopNo Tryz.f117 0) (F.zt.L2.li X n) ∧ True) ∧ True from ⟨⟨F.zt.L2.ok X n,trivial⟩,trivial⟩)) (castP (by kernel_rfl) (show True from trivial)),trivial⟩ trivial
theorem ok117 (n : Nat) : FnOK Tryz.prog SW 117 [.str] (.many [(.int .i64),(.int .i64)]) (fun x => F.zt n x.1):=zh WOf.st (zq2 _ n) (d:=8) (fun x => by kernel_rfl)
noncomputable def cx176 (X : Type) (n : Nat) : Cx X:=mkCx tab.get [(176,Tryz.f176)] [] [] [] [] []
theorem zq3 (X : Type) (n : Nat) : CxOK Tryz.prog SW (cx176 X n):=zi mixed (tabOK zk) ⟨⟨Tryz.func176,by decide⟩,trivial⟩ trivial ⟨zg (fun _ => rfl) (by kernel_rfl) (castP (by kernel_rfl) (show True from trivial)) (castP (by kernel_rfl) (show True from trivial)),trivial⟩ trivial
theorem ok176 (n : Nat) : FnOK Tryz.prog SW 176 [(.int .i64),(.int .i64)] (.many [(.int .i64),(.agg [(.int .i64),(.int .i64)])]) (fun x => F.zam n x.1 x.2.1):=zh WOf.st (zq3 _ n) (d:=8) (fun x => by kernel_rfl)
def F.zo.L5.head : Shape:=⟨[(0,.str),(3,(.const (.ref 0 0))),(4,(.const (.ref 1 0))),(16,(.agg [(.int .u8),(.int .u8)])),(17,(.int .i64))],[[(.int .i64),(.int .i64)],[(.int .i64),(.int .i64)]],[],[],[],2,0,0⟩
def F.zo.L5.e0 : Shape:=⟨[(0,.str),(3,(.const (.ref 0 0))),(4,(.const (.ref 1 0)))],[[(.int .i64),(.int .i64)],[(.int .i64),(.int .i64)]],[],[],[],2,0,0⟩
noncomputable def F.zo.L5.f {X : Type} (n m : Nat) (ks : Ks X) (s : F.zo.L5.head.den) : Option X:=F.zo.L5 n (fun q0 qb0_0 qb0_1 qb1_0 qb1_1 => ks.ex 0 (F.zo.L5.e0.e ((q0,(),(),()),((qb0_0,qb0_1,()),(qb1_0,qb1_1,()),()),(),())) (F.zo.L5.e0.h ((q0,(),(),()),((qb0_0,qb0_1,()),(qb1_0,qb1_1,()),()),(),()))) m s.1.1 s.1.2.2.2.1 s.1.2.2.2.2.1 s.2.1.1.1 s.2.1.1.2.1 s.2.1.2.1.1 s.2.1.2.1.2.1
noncomputable def F.zo.L5.li (X : Type) (n : Nat) : LoopI X:=⟨8,⟨0,0,0⟩,F.zo.L5.head,[(0,F.zo.L5.e0)],[],F.zo.L5.f n n⟩
def F.zo.L23.head : Shape:=⟨[(3,(.const (.ref 0 0))),(7,.str),(9,(.const (.ref 3 0))),(10,(.const (.fn 177 [] [(.ref 3 0)]))),(81,(.int .i64))],[[(.int .i64),(.int .i64)],[(.int .i64),(.int .i64)],[(.int .i64),(.int .i64)],[(.int .i64)]],[],[],[],4,0,0⟩
def F.zo.L23.e3 : Shape:=⟨[(3,(.const (.ref 0 0))),(9,(.const (.ref 3 0)))],[[(.int .i64),(.int .i64)],[(.int .i64),(.int .i64)],[(.int .i64),(.int .i64)],[(.int .i64)]],[],[],[],4,0,0⟩
noncomputable def F.zo.L23.f {X : Type} (n m : Nat) (ks : Ks X) (s : F.zo.L23.head.den) : Option X:=F.zo.L23 n (fun qb0_0 qb0_1 qb1_0 qb1_1 qb2_0 qb2_1 qb3_0 => ks.ex 3 (F.zo.L23.e3.e (((),(),()),((qb0_0,qb0_1,()),(qb1_0,qb1_1,()),(qb2_0,qb2_1,()),(qb3_0,()),()),(),())) (F.zo.L23.e3.h (((),(),()),((qb0_0,qb0_1,()),(qb1_0,qb1_1,()),(qb2_0,qb2_1,()),(qb3_0,()),()),(),()))) m s.1.2.1 s.1.2.2.2.2.1 s.2.1.1.1 s.2.1.1.2.1 s.2.1.2.1.1 s.2.1.2.1.2.1 s.2.1.2.2.1.1 s.2.1.2.2.1.2.1 s.2.1.2.2.2.1.1
noncomputable def F.zo.L23.li (X : Type) (n : Nat) : LoopI X:=⟨8,⟨0,0,0⟩,F.zo.L23.head,[(3,F.zo.L23.e3)],[],F.zo.L23.f n n⟩
noncomputable def cx119 (X : Type) (n : Nat) : Cx X:=mkCx tab.get [(119,Tryz.f119),(177,Tryz.f177)] [(114,orcOf [(.int .i64),.str,(.int .i64),(.int .i64)] (.one (.agg [(.int .i64),(.int .i64)])) (fun x => F.zan n x.1 x.2.1 x.2.2.1 x.2.2.2.1)),(176,orcOf [(.int .i64),(.int .i64)] (.many [(.int .i64),(.agg [(.int .i64),(.int .i64)])]) (fun x => F.zam n x.1 x.2.1))] [(119,5,[F.zo.L5.li X n]),(119,23,[F.zo.L23.li X n])] [] [] []
theorem F.zo.L5.ok (X : Type) (n : Nat) : LoopOK (cx119 X n) 119 Tryz.f119.ntmps (loopNo Tryz.f119 0) (F.zo.L5.li X n):=
  ⟨F.zo.L5.f n,n,fun _ _ => rfl,fun _ _ => rfl,fun m ks s => by kernel_rfl⟩
theorem F.zo.L23.ok (X : Type) (n : Nat) : LoopOK (cx119 X n) 119 Tryz.f119.ntmps (loopNo Tryz.f119 1) (F.zo.L23.li X n):=
  ⟨F.zo.L23.f n,n,fun _ _ => rfl,fun _ _ => rfl,fun m ks s => by kernel_rfl⟩
theorem zq4 (X : Type) (n : Nat) : CxOK Tryz.prog SW (cx119 X n):=zi mixed (tabOK zk) ⟨⟨Tryz.func119,by decide⟩,
  ⟨Tryz.func177,by decide⟩,trivial⟩ ⟨zb (ok114 n),
  zb (ok176 n),trivial⟩ ⟨zg (fun _ => rfl) (by kernel_rfl) (castP (by kernel_rfl) (show (LoopOK (cx119 X n) 119 Tryz.f119.ntmps (loopNo Tryz.f119 0) (F.zo.L5.li X n) ∧ True) ∧ (LoopOK (cx119 X n) 119 Tryz.f119.ntmps (loopNo Tryz.f119 1) (F.zo.L23.li X n) ∧ True) ∧ True from ⟨⟨F.zo.L5.ok X n,trivial⟩,⟨F.zo.L23.ok X n,trivial⟩,trivial⟩)) (castP (by kernel_rfl) (show True from trivial)),
  zg (fun _ => rfl) (by kernel_rfl) (castP (by kernel_rfl) (show True from trivial)) (castP (by kernel_rfl) (show True from trivial)),trivial⟩ trivial
theorem ok119 (n : Nat) : FnOK Tryz.prog SW 119 [.str] (.many [(.int .i64),(.agg [(.int .i64),(.int .i64)])]) (fun x => F.zo n x.1):=zh WOf.st (zq4 _ n) (d:=8) (fun x => by kernel_rfl)
def F.za.C30.head : Shape:=⟨[(2,(.const (.ref 1 0))),(3,(.const (.ref 2 0))),(4,(.const (.ref 3 0))),(6,(.const (.ref 4 0))),(9,.bool),(19,(.int .i64)),(141,.bool)],[[.str],[.str,(.int .i64),(.sl (.agg [.bool,(.int .u64),(.int .i64)]) (.own 0)),(.int .i64),(.sl (.agg [.str,.str]) (.own 1)),(.int .i64)],[(.int .i64),(.int .i64)],[(.int .i64)],[.str,(.int .i64),(.sl (.agg [.bool,(.int .u64),(.int .i64)]) (.own 2)),(.int .i64),(.sl (.agg [.str,.str]) (.own 3)),(.int .i64)]],[true,true,true,true],[],[],5,0,0⟩
def F.za.C30.er : Shape:=⟨[(2,(.const (.ref 1 0))),(3,(.const (.ref 2 0)))],[[.str],[.str,(.int .i64),(.sl (.agg [.bool,(.int .u64),(.int .i64)]) .unk),(.int .i64),(.sl (.agg [.str,.str]) .unk),(.int .i64)],[(.int .i64),(.int .i64)]],[],[],[],3,0,0⟩
def F.za.C30.en : Shape:=⟨[(2,(.const (.ref 1 0))),(3,(.const (.ref 2 0))),(4,(.const (.ref 3 0))),(6,(.const (.ref 4 0))),(9,.bool)],[[.str],[.str,(.int .i64),(.sl (.agg [.bool,(.int .u64),(.int .i64)]) (.own 0)),(.int .i64),(.sl (.agg [.str,.str]) (.own 1)),(.int .i64)],[(.int .i64),(.int .i64)],[(.int .i64)],[.str,(.int .i64),(.sl (.agg [.bool,(.int .u64),(.int .i64)]) (.own 2)),(.int .i64),(.sl (.agg [.str,.str]) (.own 3)),(.int .i64)]],[true,true,true,true],[],[],5,0,0⟩
noncomputable def F.za.C30.f {X : Type} (n : Nat) (ks : Ks X) (s : F.za.C30.head.den) : Option X:=F.za.C30 n (fun qb0_0 qb1_0 qb1_1 qb1_2 qb1_3 qb1_4 qb1_5 qb2_0 qb2_1 => ks.ret (F.za.C30.er.e (((),(),()),((qb0_0,()),(qb1_0,qb1_1,qb1_2,qb1_3,qb1_4,qb1_5,()),(qb2_0,qb2_1,()),()),(),())) (F.za.C30.er.h (((),(),()),((qb0_0,()),(qb1_0,qb1_1,qb1_2,qb1_3,qb1_4,qb1_5,()),(qb2_0,qb2_1,()),()),(),()))) (fun q9 qb0_0 qb1_0 qb1_1 qb1_2 qb1_3 qb1_4 qb1_5 qb2_0 qb2_1 qb3_0 qb4_0 qb4_1 qb4_2 qb4_3 qb4_4 qb4_5 qk0 qk1 qk2 qk3 => ks.nxt (F.za.C30.en.e (((),(),(),(),q9,()),((qb0_0,()),(qb1_0,qb1_1,qb1_2,qb1_3,qb1_4,qb1_5,()),(qb2_0,qb2_1,()),(qb3_0,()),(qb4_0,qb4_1,qb4_2,qb4_3,qb4_4,qb4_5,()),()),(qk0,qk1,qk2,qk3,()),())) (F.za.C30.en.h (((),(),(),(),q9,()),((qb0_0,()),(qb1_0,qb1_1,qb1_2,qb1_3,qb1_4,qb1_5,()),(qb2_0,qb2_1,()),(qb3_0,()),(qb4_0,qb4_1,qb4_2,qb4_3,qb4_4,qb4_5,()),()),(qk0,qk1,qk2,qk3,()),()))) s.1.2.2.2.2.1 s.1.2.2.2.2.2.1 s.1.2.2.2.2.2.2.1 s.2.1.1.1 s.2.1.2.1.1 s.2.1.2.1.2.1 s.2.1.2.1.2.2.1 s.2.1.2.1.2.2.2.1 s.2.1.2.1.2.2.2.2.1 s.2.1.2.1.2.2.2.2.2.1 s.2.1.2.2.1.1 s.2.1.2.2.1.2.1 s.2.1.2.2.2.1.1 s.2.1.2.2.2.2.1.1 s.2.1.2.2.2.2.1.2.1 s.2.1.2.2.2.2.1.2.2.1 s.2.1.2.2.2.2.1.2.2.2.1 s.2.1.2.2.2.2.1.2.2.2.2.1 s.2.1.2.2.2.2.1.2.2.2.2.2.1 s.2.2.1.1 s.2.2.1.2.1 s.2.2.1.2.2.1 s.2.2.1.2.2.2.1
noncomputable def F.za.C30.ci (X : Type) (n : Nat) : CutI X:=⟨8,⟨0,0,0⟩,F.za.C30.head,[F.za.C30.en],[],[F.za.C30.er],F.za.C30.f n⟩
def F.za.C31.head : Shape:=⟨[(2,(.const (.ref 1 0))),(3,(.const (.ref 2 0))),(4,(.const (.ref 3 0))),(6,(.const (.ref 4 0))),(9,.bool)],[[.str],[.str,(.int .i64),(.sl (.agg [.bool,(.int .u64),(.int .i64)]) (.own 0)),(.int .i64),(.sl (.agg [.str,.str]) (.own 1)),(.int .i64)],[(.int .i64),(.int .i64)],[(.int .i64)],[.str,(.int .i64),(.sl (.agg [.bool,(.int .u64),(.int .i64)]) (.own 2)),(.int .i64),(.sl (.agg [.str,.str]) (.own 3)),(.int .i64)]],[true,true,true,true],[],[],5,0,0⟩
def F.za.C31.er : Shape:=⟨[(2,(.const (.ref 1 0))),(3,(.const (.ref 2 0)))],[[.str],[.str,(.int .i64),(.sl (.agg [.bool,(.int .u64),(.int .i64)]) .unk),(.int .i64),(.sl (.agg [.str,.str]) .unk),(.int .i64)],[(.int .i64),(.int .i64)]],[],[],[],3,0,0⟩
noncomputable def F.za.C31.f {X : Type} (n : Nat) (ks : Ks X) (s : F.za.C31.head.den) : Option X:=F.za.C31 n (fun qb0_0 qb1_0 qb1_1 qb1_2 qb1_3 qb1_4 qb1_5 qb2_0 qb2_1 => ks.ret (F.za.C31.er.e (((),(),()),((qb0_0,()),(qb1_0,qb1_1,qb1_2,qb1_3,qb1_4,qb1_5,()),(qb2_0,qb2_1,()),()),(),())) (F.za.C31.er.h (((),(),()),((qb0_0,()),(qb1_0,qb1_1,qb1_2,qb1_3,qb1_4,qb1_5,()),(qb2_0,qb2_1,()),()),(),()))) s.1.2.2.2.2.1 s.2.1.1.1 s.2.1.2.1.1 s.2.1.2.1.2.1 s.2.1.2.1.2.2.1 s.2.1.2.1.2.2.2.1 s.2.1.2.1.2.2.2.2.1 s.2.1.2.1.2.2.2.2.2.1 s.2.1.2.2.1.1 s.2.1.2.2.1.2.1 s.2.1.2.2.2.1.1 s.2.1.2.2.2.2.1.1 s.2.1.2.2.2.2.1.2.1 s.2.1.2.2.2.2.1.2.2.1 s.2.1.2.2.2.2.1.2.2.2.1 s.2.1.2.2.2.2.1.2.2.2.2.1 s.2.1.2.2.2.2.1.2.2.2.2.2.1 s.2.2.1.1 s.2.2.1.2.1 s.2.2.1.2.2.1 s.2.2.1.2.2.2.1
noncomputable def F.za.C31.ci (X : Type) (n : Nat) : CutI X:=⟨8,⟨0,0,0⟩,F.za.C31.head,[],[],[F.za.C31.er],F.za.C31.f n⟩
def F.za.C28.head : Shape:=⟨[(2,(.const (.ref 1 0))),(3,(.const (.ref 2 0))),(4,(.const (.ref 3 0))),(6,(.const (.ref 4 0))),(9,.bool),(13,(.const (.ref 6 0))),(16,(.int .i64)),(18,.str),(19,(.int .i64))],[[.str],[.str,(.int .i64),(.sl (.agg [.bool,(.int .u64),(.int .i64)]) (.own 0)),(.int .i64),(.sl (.agg [.str,.str]) (.own 1)),(.int .i64)],[(.int .i64),(.int .i64)],[(.int .i64)],[.str,(.int .i64),(.sl (.agg [.bool,(.int .u64),(.int .i64)]) (.own 2)),(.int .i64),(.sl (.agg [.str,.str]) (.own 3)),(.int .i64)],[.bool,(.int .u64),(.int .i64)],[(.int .i64),(.int .i64)]],[true,true,true,true],[],[],7,0,0⟩
def F.za.C28.er : Shape:=⟨[(2,(.const (.ref 1 0))),(3,(.const (.ref 2 0)))],[[.str],[.str,(.int .i64),(.sl (.agg [.bool,(.int .u64),(.int .i64)]) .unk),(.int .i64),(.sl (.agg [.str,.str]) .unk),(.int .i64)],[(.int .i64),(.int .i64)]],[],[],[],3,0,0⟩
noncomputable def F.za.C28.f {X : Type} (n : Nat) (ks : Ks X) (s : F.za.C28.head.den) : Option X:=F.za.C28 n (fun qb0_0 qb1_0 qb1_1 qb1_2 qb1_3 qb1_4 qb1_5 qb2_0 qb2_1 => ks.ret (F.za.C28.er.e (((),(),()),((qb0_0,()),(qb1_0,qb1_1,qb1_2,qb1_3,qb1_4,qb1_5,()),(qb2_0,qb2_1,()),()),(),())) (F.za.C28.er.h (((),(),()),((qb0_0,()),(qb1_0,qb1_1,qb1_2,qb1_3,qb1_4,qb1_5,()),(qb2_0,qb2_1,()),()),(),()))) s.1.2.2.2.2.1 s.1.2.2.2.2.2.2.1 s.1.2.2.2.2.2.2.2.1 s.1.2.2.2.2.2.2.2.2.1 s.2.1.1.1 s.2.1.2.1.1 s.2.1.2.1.2.1 s.2.1.2.1.2.2.1 s.2.1.2.1.2.2.2.1 s.2.1.2.1.2.2.2.2.1 s.2.1.2.1.2.2.2.2.2.1 s.2.1.2.2.1.1 s.2.1.2.2.1.2.1 s.2.1.2.2.2.1.1 s.2.1.2.2.2.2.1.1 s.2.1.2.2.2.2.1.2.1 s.2.1.2.2.2.2.1.2.2.1 s.2.1.2.2.2.2.1.2.2.2.1 s.2.1.2.2.2.2.1.2.2.2.2.1 s.2.1.2.2.2.2.1.2.2.2.2.2.1 s.2.1.2.2.2.2.2.1.1 s.2.1.2.2.2.2.2.1.2.1 s.2.1.2.2.2.2.2.1.2.2.1 s.2.1.2.2.2.2.2.2.1.1 s.2.1.2.2.2.2.2.2.1.2.1 s.2.2.1.1 s.2.2.1.2.1 s.2.2.1.2.2.1 s.2.2.1.2.2.2.1
noncomputable def F.za.C28.ci (X : Type) (n : Nat) : CutI X:=⟨8,⟨0,0,0⟩,F.za.C28.head,[],[],[F.za.C28.er],F.za.C28.f n⟩
def F.za.C21.head : Shape:=⟨[(1,(.const (.ref 0 0))),(2,(.const (.ref 1 0))),(3,(.const (.ref 2 0))),(4,(.const (.ref 3 0))),(5,(.const (.fn 112 [] [(.ref 3 0),(.ref 0 0)]))),(6,(.const (.ref 4 0))),(7,.str),(9,.bool),(12,(.const (.ref 5 0))),(13,(.const (.ref 6 0))),(16,(.int .i64))],[[.str],[.str,(.int .i64),(.sl (.agg [.bool,(.int .u64),(.int .i64)]) (.own 0)),(.int .i64),(.sl (.agg [.str,.str]) (.own 1)),(.int .i64)],[(.int .i64),(.int .i64)],[(.int .i64)],[.str,(.int .i64),(.sl (.agg [.bool,(.int .u64),(.int .i64)]) (.own 2)),(.int .i64),(.sl (.agg [.str,.str]) (.own 3)),(.int .i64)],[.bool,(.int .u64),(.int .i64)],[(.int .i64),(.int .i64)]],[true,true,true,true],[],[],7,0,0⟩
def F.za.C21.er : Shape:=⟨[(2,(.const (.ref 1 0))),(3,(.const (.ref 2 0)))],[[.str],[.str,(.int .i64),(.sl (.agg [.bool,(.int .u64),(.int .i64)]) .unk),(.int .i64),(.sl (.agg [.str,.str]) .unk),(.int .i64)],[(.int .i64),(.int .i64)]],[],[],[],3,0,0⟩
noncomputable def F.za.C21.f {X : Type} (n : Nat) (ks : Ks X) (s : F.za.C21.head.den) : Option X:=F.za.C21 n (fun qb0_0 qb1_0 qb1_1 qb1_2 qb1_3 qb1_4 qb1_5 qb2_0 qb2_1 => ks.ret (F.za.C21.er.e (((),(),()),((qb0_0,()),(qb1_0,qb1_1,qb1_2,qb1_3,qb1_4,qb1_5,()),(qb2_0,qb2_1,()),()),(),())) (F.za.C21.er.h (((),(),()),((qb0_0,()),(qb1_0,qb1_1,qb1_2,qb1_3,qb1_4,qb1_5,()),(qb2_0,qb2_1,()),()),(),()))) s.1.2.2.2.2.2.2.1 s.1.2.2.2.2.2.2.2.1 s.1.2.2.2.2.2.2.2.2.2.2.1 s.2.1.1.1 s.2.1.2.1.1 s.2.1.2.1.2.1 s.2.1.2.1.2.2.1 s.2.1.2.1.2.2.2.1 s.2.1.2.1.2.2.2.2.1 s.2.1.2.1.2.2.2.2.2.1 s.2.1.2.2.1.1 s.2.1.2.2.1.2.1 s.2.1.2.2.2.1.1 s.2.1.2.2.2.2.1.1 s.2.1.2.2.2.2.1.2.1 s.2.1.2.2.2.2.1.2.2.1 s.2.1.2.2.2.2.1.2.2.2.1 s.2.1.2.2.2.2.1.2.2.2.2.1 s.2.1.2.2.2.2.1.2.2.2.2.2.1 s.2.1.2.2.2.2.2.1.1 s.2.1.2.2.2.2.2.1.2.1 s.2.1.2.2.2.2.2.1.2.2.1 s.2.1.2.2.2.2.2.2.1.1 s.2.1.2.2.2.2.2.2.1.2.1 s.2.2.1.1 s.2.2.1.2.1 s.2.2.1.2.2.1 s.2.2.1.2.2.2.1
noncomputable def F.za.C21.ci (X : Type) (n : Nat) : CutI X:=⟨8,⟨0,0,0⟩,F.za.C21.head,[],[],[F.za.C21.er],F.za.C21.f n⟩
def F.za.C16.head : Shape:=⟨[(1,(.const (.ref 0 0))),(2,(.const (.ref 1 0))),(3,(.const (.ref 2 0))),(4,(.const (.ref 3 0))),(5,(.const (.fn 112 [] [(.ref 3 0),(.ref 0 0)]))),(6,(.const (.ref 4 0))),(7,.str),(9,.bool),(10,.str),(11,(.int .i64)),(12,(.const (.ref 5 0))),(13,(.const (.ref 6 0))),(14,.str),(15,(.int .i64))],[[.str],[.str,(.int .i64),(.sl (.agg [.bool,(.int .u64),(.int .i64)]) (.own 0)),(.int .i64),(.sl (.agg [.str,.str]) (.own 1)),(.int .i64)],[(.int .i64),(.int .i64)],[(.int .i64)],[.str,(.int .i64),(.sl (.agg [.bool,(.int .u64),(.int .i64)]) (.own 2)),(.int .i64),(.sl (.agg [.str,.str]) (.own 3)),(.int .i64)],[.bool,(.int .u64),(.int .i64)],[(.int .i64),(.int .i64)]],[true,true,true,true],[],[],7,0,0⟩
def F.za.C16.er : Shape:=⟨[(2,(.const (.ref 1 0))),(3,(.const (.ref 2 0)))],[[.str],[.str,(.int .i64),(.sl (.agg [.bool,(.int .u64),(.int .i64)]) .unk),(.int .i64),(.sl (.agg [.str,.str]) .unk),(.int .i64)],[(.int .i64),(.int .i64)]],[],[],[],3,0,0⟩
noncomputable def F.za.C16.f {X : Type} (n : Nat) (ks : Ks X) (s : F.za.C16.head.den) : Option X:=F.za.C16 n (fun qb0_0 qb1_0 qb1_1 qb1_2 qb1_3 qb1_4 qb1_5 qb2_0 qb2_1 => ks.ret (F.za.C16.er.e (((),(),()),((qb0_0,()),(qb1_0,qb1_1,qb1_2,qb1_3,qb1_4,qb1_5,()),(qb2_0,qb2_1,()),()),(),())) (F.za.C16.er.h (((),(),()),((qb0_0,()),(qb1_0,qb1_1,qb1_2,qb1_3,qb1_4,qb1_5,()),(qb2_0,qb2_1,()),()),(),()))) s.1.2.2.2.2.2.2.1 s.1.2.2.2.2.2.2.2.1 s.1.2.2.2.2.2.2.2.2.1 s.1.2.2.2.2.2.2.2.2.2.1 s.1.2.2.2.2.2.2.2.2.2.2.2.2.1 s.1.2.2.2.2.2.2.2.2.2.2.2.2.2.1 s.2.1.1.1 s.2.1.2.1.1 s.2.1.2.1.2.1 s.2.1.2.1.2.2.1 s.2.1.2.1.2.2.2.1 s.2.1.2.1.2.2.2.2.1 s.2.1.2.1.2.2.2.2.2.1 s.2.1.2.2.1.1 s.2.1.2.2.1.2.1 s.2.1.2.2.2.1.1 s.2.1.2.2.2.2.1.1 s.2.1.2.2.2.2.1.2.1 s.2.1.2.2.2.2.1.2.2.1 s.2.1.2.2.2.2.1.2.2.2.1 s.2.1.2.2.2.2.1.2.2.2.2.1 s.2.1.2.2.2.2.1.2.2.2.2.2.1 s.2.1.2.2.2.2.2.1.1 s.2.1.2.2.2.2.2.1.2.1 s.2.1.2.2.2.2.2.1.2.2.1 s.2.1.2.2.2.2.2.2.1.1 s.2.1.2.2.2.2.2.2.1.2.1 s.2.2.1.1 s.2.2.1.2.1 s.2.2.1.2.2.1 s.2.2.1.2.2.2.1
noncomputable def F.za.C16.ci (X : Type) (n : Nat) : CutI X:=⟨8,⟨0,0,0⟩,F.za.C16.head,[],[],[F.za.C16.er],F.za.C16.f n⟩
def F.za.C10.head : Shape:=⟨[(1,(.const (.ref 0 0))),(2,(.const (.ref 1 0))),(3,(.const (.ref 2 0))),(4,(.const (.ref 3 0))),(5,(.const (.fn 112 [] [(.ref 3 0),(.ref 0 0)]))),(6,(.const (.ref 4 0))),(7,.str),(9,.bool),(10,.str),(11,(.int .i64))],[[.str],[.str,(.int .i64),(.sl (.agg [.bool,(.int .u64),(.int .i64)]) (.own 0)),(.int .i64),(.sl (.agg [.str,.str]) (.own 1)),(.int .i64)],[(.int .i64),(.int .i64)],[(.int .i64)],[.str,(.int .i64),(.sl (.agg [.bool,(.int .u64),(.int .i64)]) (.own 2)),(.int .i64),(.sl (.agg [.str,.str]) (.own 3)),(.int .i64)]],[true,true,true,true],[],[],5,0,0⟩
def F.za.C10.er : Shape:=⟨[(2,(.const (.ref 1 0))),(3,(.const (.ref 2 0)))],[[.str],[.str,(.int .i64),(.sl (.agg [.bool,(.int .u64),(.int .i64)]) .unk),(.int .i64),(.sl (.agg [.str,.str]) .unk),(.int .i64)],[(.int .i64),(.int .i64)]],[],[],[],3,0,0⟩
noncomputable def F.za.C10.f {X : Type} (n : Nat) (ks : Ks X) (s : F.za.C10.head.den) : Option X:=F.za.C10 n (fun qb0_0 qb1_0 qb1_1 qb1_2 qb1_3 qb1_4 qb1_5 qb2_0 qb2_1 => ks.ret (F.za.C10.er.e (((),(),()),((qb0_0,()),(qb1_0,qb1_1,qb1_2,qb1_3,qb1_4,qb1_5,()),(qb2_0,qb2_1,()),()),(),())) (F.za.C10.er.h (((),(),()),((qb0_0,()),(qb1_0,qb1_1,qb1_2,qb1_3,qb1_4,qb1_5,()),(qb2_0,qb2_1,()),()),(),()))) s.1.2.2.2.2.2.2.1 s.1.2.2.2.2.2.2.2.1 s.1.2.2.2.2.2.2.2.2.1 s.1.2.2.2.2.2.2.2.2.2.1 s.2.1.1.1 s.2.1.2.1.1 s.2.1.2.1.2.1 s.2.1.2.1.2.2.1 s.2.1.2.1.2.2.2.1 s.2.1.2.1.2.2.2.2.1 s.2.1.2.1.2.2.2.2.2.1 s.2.1.2.2.1.1 s.2.1.2.2.1.2.1 s.2.1.2.2.2.1.1 s.2.1.2.2.2.2.1.1 s.2.1.2.2.2.2.1.2.1 s.2.1.2.2.2.2.1.2.2.1 s.2.1.2.2.2.2.1.2.2.2.1 s.2.1.2.2.2.2.1.2.2.2.2.1 s.2.1.2.2.2.2.1.2.2.2.2.2.1 s.2.2.1.1 s.2.2.1.2.1 s.2.2.1.2.2.1 s.2.2.1.2.2.2.1
noncomputable def F.za.C10.ci (X : Type) (n : Nat) : CutI X:=⟨8,⟨0,0,0⟩,F.za.C10.head,[],[],[F.za.C10.er],F.za.C10.f n⟩
def F.za.C5.head : Shape:=⟨[(1,(.const (.ref 0 0))),(2,(.const (.ref 1 0))),(3,(.const (.ref 2 0))),(4,(.const (.ref 3 0))),(5,(.const (.fn 112 [] [(.ref 3 0),(.ref 0 0)]))),(6,(.const (.ref 4 0))),(7,.str),(9,.bool)],[[.str],[.str,(.int .i64),(.sl (.agg [.bool,(.int .u64),(.int .i64)]) (.own 0)),(.int .i64),(.sl (.agg [.str,.str]) (.own 1)),(.int .i64)],[(.int .i64),(.int .i64)],[(.int .i64)],[.str,(.int .i64),(.sl (.agg [.bool,(.int .u64),(.int .i64)]) (.own 2)),(.int .i64),(.sl (.agg [.str,.str]) (.own 3)),(.int .i64)]],[true,true,true,true],[],[],5,0,0⟩
def F.za.C5.er : Shape:=⟨[(2,(.const (.ref 1 0))),(3,(.const (.ref 2 0)))],[[.str],[.str,(.int .i64),(.sl (.agg [.bool,(.int .u64),(.int .i64)]) .unk),(.int .i64),(.sl (.agg [.str,.str]) .unk),(.int .i64)],[(.int .i64),(.int .i64)]],[],[],[],3,0,0⟩
noncomputable def F.za.C5.f {X : Type} (n : Nat) (ks : Ks X) (s : F.za.C5.head.den) : Option X:=F.za.C5 n (fun qb0_0 qb1_0 qb1_1 qb1_2 qb1_3 qb1_4 qb1_5 qb2_0 qb2_1 => ks.ret (F.za.C5.er.e (((),(),()),((qb0_0,()),(qb1_0,qb1_1,qb1_2,qb1_3,qb1_4,qb1_5,()),(qb2_0,qb2_1,()),()),(),())) (F.za.C5.er.h (((),(),()),((qb0_0,()),(qb1_0,qb1_1,qb1_2,qb1_3,qb1_4,qb1_5,()),(qb2_0,qb2_1,()),()),(),()))) s.1.2.2.2.2.2.2.1 s.1.2.2.2.2.2.2.2.1 s.2.1.1.1 s.2.1.2.1.1 s.2.1.2.1.2.1 s.2.1.2.1.2.2.1 s.2.1.2.1.2.2.2.1 s.2.1.2.1.2.2.2.2.1 s.2.1.2.1.2.2.2.2.2.1 s.2.1.2.2.1.1 s.2.1.2.2.1.2.1 s.2.1.2.2.2.1.1 s.2.1.2.2.2.2.1.1 s.2.1.2.2.2.2.1.2.1 s.2.1.2.2.2.2.1.2.2.1 s.2.1.2.2.2.2.1.2.2.2.1 s.2.1.2.2.2.2.1.2.2.2.2.1 s.2.1.2.2.2.2.1.2.2.2.2.2.1 s.2.2.1.1 s.2.2.1.2.1 s.2.2.1.2.2.1 s.2.2.1.2.2.2.1
noncomputable def F.za.C5.ci (X : Type) (n : Nat) : CutI X:=⟨8,⟨0,0,0⟩,F.za.C5.head,[],[],[F.za.C5.er],F.za.C5.f n⟩
noncomputable def cx58 (X : Type) (n : Nat) : Cx X:=mkCx tab.get [(58,Tryz.f58),(112,Tryz.f112)] [(113,orcOf [.str,.str] (.many [.str,.str,.bool]) (fun x => F.zah n x.1 x.2.1)),(114,orcOf [(.int .i64),.str,(.int .i64),(.int .i64)] (.one (.agg [(.int .i64),(.int .i64)])) (fun x => F.zan n x.1 x.2.1 x.2.2.1 x.2.2.2.1)),(115,orcOf [(.int .i64),(.int .i64)] (.many [(.agg [.str,(.int .i64),(.sl (.agg [.bool,(.int .u64),(.int .i64)]) .unk),(.int .i64),(.sl (.agg [.str,.str]) .unk),(.int .i64)]),(.agg [(.int .i64),(.int .i64)])]) (fun x => F.zap n x.1 x.2.1)),(116,orcOf [.str] (.many [(.agg [.bool,(.int .u64),(.int .i64)]),(.agg [(.int .i64),(.int .i64)])]) (fun x => F.z7 n x.1)),(117,orcOf [.str] (.many [(.int .i64),(.int .i64)]) (fun x => F.zt n x.1)),(118,orcOf [.str,.str] (.one .bool) (fun x => F.zai n x.1 x.2.1)),(119,orcOf [.str] (.many [(.int .i64),(.agg [(.int .i64),(.int .i64)])]) (fun x => F.zo n x.1))] [] [] [(58,21,[(2,5),(2,7)])] [] [(58,5,[F.za.C5.ci X n]),(58,10,[F.za.C10.ci X n]),(58,16,[F.za.C16.ci X n]),(58,21,[F.za.C21.ci X n]),(58,28,[F.za.C28.ci X n]),(58,30,[F.za.C30.ci X n]),(58,31,[F.za.C31.ci X n])]
theorem F.za.C30.ok (X : Type) (n : Nat) : CutOK (cx58 X n) 58 Tryz.f58.ntmps (cutNo Tryz.f58 37) (F.za.C30.ci X n):=
  fun ks s => by kernel_rfl
theorem F.za.C31.ok (X : Type) (n : Nat) : CutOK (cx58 X n) 58 Tryz.f58.ntmps (cutNo Tryz.f58 36) (F.za.C31.ci X n):=
  fun ks s => by kernel_rfl
theorem F.za.C28.ok (X : Type) (n : Nat) : CutOK (cx58 X n) 58 Tryz.f58.ntmps (cutNo Tryz.f58 34) (F.za.C28.ci X n):=
  fun ks s => by kernel_rfl
theorem F.za.C21.ok (X : Type) (n : Nat) : CutOK (cx58 X n) 58 Tryz.f58.ntmps (cutNo Tryz.f58 21) (F.za.C21.ci X n):=
  fun ks s => by kernel_rfl
theorem F.za.C16.ok (X : Type) (n : Nat) : CutOK (cx58 X n) 58 Tryz.f58.ntmps (cutNo Tryz.f58 19) (F.za.C16.ci X n):=
  fun ks s => by kernel_rfl
theorem F.za.C10.ok (X : Type) (n : Nat) : CutOK (cx58 X n) 58 Tryz.f58.ntmps (cutNo Tryz.f58 11) (F.za.C10.ci X n):=
  fun ks s => by kernel_rfl
theorem F.za.C5.ok (X : Type) (n : Nat) : CutOK (cx58 X n) 58 Tryz.f58.ntmps (cutNo Tryz.f58 4) (F.za.C5.ci X n):=
  fun ks s => by kernel_rfl
theorem zs6 (X : Type) (n : Nat) : CxOK Tryz.prog SW (cx58 X n):=zi mixed (tabOK zk) ⟨⟨Tryz.func58,by decide⟩,
  ⟨Tryz.func112,by decide⟩,trivial⟩ ⟨zb (ok113 n),
  zb (ok114 n),
  zb (ok115 n),
  zb (ok116 n),
  zb (ok117 n),
  zb (ok118 n),
  zb (ok119 n),trivial⟩ ⟨zg8 (castP (by kernel_rfl) (show (True) ∧ (True) ∧ (True) ∧ (True) ∧ (CutOK (cx58 X n) 58 Tryz.f58.ntmps (cutNo Tryz.f58 4) (F.za.C5.ci X n) ∧ True) ∧ (True) ∧ (True) ∧ (True) ∧ (True) ∧ (True) ∧ (True) ∧ (CutOK (cx58 X n) 58 Tryz.f58.ntmps (cutNo Tryz.f58 11) (F.za.C10.ci X n) ∧ True) ∧ (True) ∧ (True) ∧ (True) ∧ (True) ∧ (True) ∧ (True) ∧ (True) ∧ (CutOK (cx58 X n) 58 Tryz.f58.ntmps (cutNo Tryz.f58 19) (F.za.C16.ci X n) ∧ True) ∧ (True) ∧ (CutOK (cx58 X n) 58 Tryz.f58.ntmps (cutNo Tryz.f58 21) (F.za.C21.ci X n) ∧ True) ∧ (True) ∧ (True) ∧ (True) ∧ (True) ∧ (True) ∧ (True) ∧ (True) ∧ (True) ∧ (True) ∧ (True) ∧ (True) ∧ (True) ∧ (CutOK (cx58 X n) 58 Tryz.f58.ntmps (cutNo Tryz.f58 34) (F.za.C28.ci X n) ∧ True) ∧ (True) ∧ (CutOK (cx58 X n) 58 Tryz.f58.ntmps (cutNo Tryz.f58 36) (F.za.C31.ci X n) ∧ True) ∧ (CutOK (cx58 X n) 58 Tryz.f58.ntmps (cutNo Tryz.f58 37) (F.za.C30.ci X n) ∧ True) ∧ (True) ∧ (True) ∧ (True) ∧ (True) ∧ (True) ∧ True from ⟨trivial,trivial,trivial,trivial,⟨F.za.C5.ok X n,trivial⟩,trivial,trivial,trivial,trivial,trivial,trivial,⟨F.za.C10.ok X n,trivial⟩,trivial,trivial,trivial,trivial,trivial,trivial,trivial,⟨F.za.C16.ok X n,trivial⟩,trivial,⟨F.za.C21.ok X n,trivial⟩,trivial,trivial,trivial,trivial,trivial,trivial,trivial,trivial,trivial,trivial,trivial,trivial,⟨F.za.C28.ok X n,trivial⟩,trivial,⟨F.za.C31.ok X n,trivial⟩,⟨F.za.C30.ok X n,trivial⟩,trivial,trivial,trivial,trivial,trivial,trivial⟩)) (by kernel_rfl) (castP (by kernel_rfl) (show True from trivial)) (castP (by kernel_rfl) (show True from trivial)),
  zg (fun _ => rfl) (by kernel_rfl) (castP (by kernel_rfl) (show True from trivial)) (castP (by kernel_rfl) (show True from trivial)),trivial⟩ trivial
theorem ok58 (n : Nat) : FnOK Tryz.prog SW 58 [.str] (.many [(.agg [.str,(.int .i64),(.sl (.agg [.bool,(.int .u64),(.int .i64)]) .unk),(.int .i64),(.sl (.agg [.str,.str]) .unk),(.int .i64)]),(.agg [(.int .i64),(.int .i64)])]) (fun x => F.za n x.1):=zh WOf.st (zs6 _ n) (d:=8) (fun x => by kernel_rfl)
noncomputable def cx140 (X : Type) (n : Nat) : Cx X:=mkCx tab.get [(140,Tryz.f140)] [] [] [] [] []
theorem zq5 (X : Type) (n : Nat) : CxOK Tryz.prog SW (cx140 X n):=zi mixed (tabOK zk) ⟨⟨Tryz.func140,by decide⟩,trivial⟩ trivial ⟨zg (fun _ => rfl) (by kernel_rfl) (castP (by kernel_rfl) (show True from trivial)) (castP (by kernel_rfl) (show True from trivial)),trivial⟩ trivial
theorem ok140 (n : Nat) : FnOK Tryz.prog SW 140 [(.sl (.agg [.str,.str]) .unk)] (.one (.sl (.agg [.str,.str]) .unk)) (fun x => F.zaf n x.1):=zh WOf.st (zq5 _ n) (d:=8) (fun x => by kernel_rfl)
def F.zz.L5.head : Shape:=⟨[(3,(.ms 2 (.agg [.str,.str]))),(4,(.int .i64)),(11,(.ms 2 (.agg [.str,.str]))),(12,(.int .i64)),(13,(.int .i64))],[[(.row (.agg [.str,.str]))],[(.row (.agg [.str,.str]))],[(.row (.agg [.str,.str]))]],[],[],[],3,0,0⟩
def F.zz.L5.e0 : Shape:=⟨[(3,(.ms 2 (.agg [.str,.str]))),(4,(.int .i64))],[[(.row (.agg [.str,.str]))],[(.row (.agg [.str,.str]))],[(.row (.agg [.str,.str]))]],[],[],[],3,0,0⟩
noncomputable def F.zz.L5.f {X : Type} (n m : Nat) (ks : Ks X) (s : F.zz.L5.head.den) : Option X:=F.zz.L5 n (fun q3 q4 qb0_0 qb1_0 qb2_0 => ks.ex 0 (F.zz.L5.e0.e ((q3,q4,()),((qb0_0,()),(qb1_0,()),(qb2_0,()),()),(),())) (F.zz.L5.e0.h ((q3,q4,()),((qb0_0,()),(qb1_0,()),(qb2_0,()),()),(),()))) m s.1.1 s.1.2.1 s.1.2.2.1 s.1.2.2.2.1 s.1.2.2.2.2.1 s.2.1.1.1 s.2.1.2.1.1 s.2.1.2.2.1.1
noncomputable def F.zz.L5.li (X : Type) (n : Nat) : LoopI X:=⟨8,⟨0,0,0⟩,F.zz.L5.head,[(0,F.zz.L5.e0)],[],F.zz.L5.f n n⟩
noncomputable def cx68 (X : Type) (n : Nat) : Cx X:=mkCx tab.get [(68,Tryz.f68),(135,Tryz.f135)] [(140,orcOf [(.sl (.agg [.str,.str]) .unk)] (.one (.sl (.agg [.str,.str]) .unk)) (fun x => F.zaf n x.1))] [(68,5,[F.zz.L5.li X n])] [] [] [] [] [(34,(.agg [.str,.str]))] [(136,.sort (.agg [.str,.str]) 137 sortTags)] none [135]
theorem F.zz.L5.ok (X : Type) (n : Nat) : LoopOK (cx68 X n) 68 Tryz.f68.ntmps (loopNo Tryz.f68 0) (F.zz.L5.li X n):=
  ⟨F.zz.L5.f n,n,fun _ _ => rfl,fun _ _ => rfl,fun m ks s => by kernel_rfl⟩
theorem zs7 (X : Type) (n : Nat) : CxOK Tryz.prog SW (cx68 X n):=zi mixed (tabOK zk) ⟨⟨Tryz.func68,by decide⟩,
  ⟨Tryz.func135,by decide⟩,trivial⟩ ⟨zb (ok140 n),trivial⟩ ⟨zg (fun _ => rfl) (by kernel_rfl) (castP (by kernel_rfl) (show (LoopOK (cx68 X n) 68 Tryz.f68.ntmps (loopNo Tryz.f68 0) (F.zz.L5.li X n) ∧ True) ∧ True from ⟨⟨F.zz.L5.ok X n,trivial⟩,trivial⟩)) (castP (by kernel_rfl) (show True from trivial)),
  zg (fun _ => rfl) (by kernel_rfl) (castP (by kernel_rfl) (show True from trivial)) (castP (by kernel_rfl) (show True from trivial)),trivial⟩ trivial ⟨zlf.mono (fun _ _ => trivial),trivial⟩
theorem ok68 (n : Nat) : FnOK Tryz.prog SW 68 [(.sl (.agg [.str,.str]) .unk)] (.one (.sl (.agg [.str,.str]) .unk)) (fun x => F.zz n x.1):=zh WOf.st (zs7 _ n) (d:=8) (fun x => by kernel_rfl)
theorem ok126 (n : Nat) : FnOK Tryz.prog SW 126 [.str,.str] (.one (.sl .str .unk)) (fun x => O.split1 n x.1 x.2.1):=zoz (enters Tryz.func126 (by kernel_rfl) (by decide)) Tryz.strings_Split_one n
noncomputable def cx179 (X : Type) (n : Nat) : Cx X:=mkCx tab.get [(179,Tryz.f179)] [] [] [] [] []
theorem zq6 (X : Type) (n : Nat) : CxOK Tryz.prog SW (cx179 X n):=zi mixed (tabOK zk) ⟨⟨Tryz.func179,by decide⟩,trivial⟩ trivial ⟨zg (fun _ => rfl) (by kernel_rfl) (castP (by kernel_rfl) (show True from trivial)) (castP (by kernel_rfl) (show True from trivial)),trivial⟩ trivial
theorem ok179 (n : Nat) : FnOK Tryz.prog SW 179 [] (.one (.agg [.str,.str,.str,.str,.str,.str])) (fun x => F.zbl n ):=zh WOf.st (zq6 _ n) (d:=8) (fun x => by kernel_rfl)
def F.zag.L2.head : Shape:=⟨[(0,.str),(6,(.agg [.str,.str,.str,.str,.str,.str])),(7,(.int .i64))],[],[],[],[],0,0,0⟩
def F.zag.L2.e0 : Shape:=⟨[],[],[],[],[],0,0,0⟩
def F.zag.L2.er : Shape:=⟨[(2,(.int .i64)),(3,(.int .i64))],[],[],[],[],0,0,0⟩
noncomputable def F.zag.L2.f {X : Type} (n m : Nat) (ks : Ks X) (s : F.zag.L2.head.den) : Option X:=F.zag.L2 n (fun (_ : Unit) => ks.ex 0 (F.zag.L2.e0.e ((),(),(),())) (F.zag.L2.e0.h ((),(),(),()))) (fun q2 q3 => ks.ret (F.zag.L2.er.e ((q2,q3,()),(),(),())) (F.zag.L2.er.h ((q2,q3,()),(),(),()))) m s.1.1 s.1.2.1 s.1.2.2.1
noncomputable def F.zag.L2.li (X : Type) (n : Nat) : LoopI X:=⟨8,⟨0,0,0⟩,F.zag.L2.head,[(0,F.zag.L2.e0)],[F.zag.L2.er],F.zag.L2.f n n⟩
noncomputable def cx183 (X : Type) (n : Nat) : Cx X:=mkCx tab.get [(183,Tryz.f183)] [(179,orcOf [] (.one (.agg [.str,.str,.str,.str,.str,.str])) (fun x => F.zbl n ))] [(183,2,[F.zag.L2.li X n])] [] [] []
theorem F.zag.L2.ok (X : Type) (n : Nat) : LoopOK (cx183 X n) 183 Tryz.f183.ntmps (loopNo Tryz.f183 0) (F.zag.L2.li X n):=
  ⟨F.zag.L2.f n,n,fun _ _ => rfl,fun _ _ => rfl,fun m ks s => by kernel_rfl⟩
theorem zq7 (X : Type) (n : Nat) : CxOK Tryz.prog SW (cx183 X n):=zi mixed (tabOK zk) ⟨⟨Tryz.func183,by decide⟩,trivial⟩ ⟨zb (ok179 n),trivial⟩ ⟨zg (fun _ => rfl) (by kernel_rfl) (castP (by kernel_rfl) (show (LoopOK (cx183 X n) 183 Tryz.f183.ntmps (loopNo Tryz.f183 0) (F.zag.L2.li X n) ∧ True) ∧ True from ⟨⟨F.zag.L2.ok X n,trivial⟩,trivial⟩)) (castP (by kernel_rfl) (show True from trivial)),trivial⟩ trivial
theorem ok183 (n : Nat) : FnOK Tryz.prog SW 183 [.str] (.many [(.int .i64),(.int .i64)]) (fun x => F.zag n x.1):=zh WOf.st (zq7 _ n) (d:=8) (fun x => by kernel_rfl)
theorem ok250 (n : Nat) : FnOK Tryz.prog SW 250 [.str] (.many [(.int .i64),.err]) (fun x => O.atoi n x.1):=zs1 (enters Tryz.func250 (by kernel_rfl) (by decide)) (fun s hs v hv w hw => (Tryz.strconv_Atoi_ok s (by omega) v hv w).mono fun e w' ⟨a,b⟩ => ⟨a,by rcases b with rfl | ⟨t,rfl⟩; exact Below.refl _ _; exact zle⟩)
  (fun s hs n1 n2 w hw => by obtain ⟨ev,hv,hev⟩:=swErrS hw; exact (Any.strconv_Atoi_syntax Tryz.laysC172 s (by omega) (by cases hq : Lib.atoiAll s.data.toList with | ok v => exact absurd hq (n1 v) | range => exact absurd hq n2 | _ => rfl) ev w hv hev).mono fun e w' ⟨N,a,_,_,b⟩ => ⟨⟨_,_,a⟩,b⟩)
  (fun s hs hq w hw => by obtain ⟨ev,hv,hev⟩:=swErrR hw; exact (Any.strconv_Atoi_range Tryz.laysC172 s (by omega) hq ev w hv hev).mono fun e w' ⟨N,a,_,_,b⟩ => ⟨⟨_,_,a⟩,b⟩) n
noncomputable def cx221 (X : Type) (n : Nat) : Cx X:=mkCx tab.get [(221,Tryz.f221)] [(114,orcOf [(.int .i64),.str,(.int .i64),(.int .i64)] (.one (.agg [(.int .i64),(.int .i64)])) (fun x => F.zan n x.1 x.2.1 x.2.2.1 x.2.2.2.1)),(176,orcOf [(.int .i64),(.int .i64)] (.many [(.int .i64),(.agg [(.int .i64),(.int .i64)])]) (fun x => F.zam n x.1 x.2.1)),(250,orcOf [.str] (.many [(.int .i64),.err]) (fun x => O.atoi n x.1))] [] [] [] []
theorem zq8 (X : Type) (n : Nat) : CxOK Tryz.prog SW (cx221 X n):=zi mixed (tabOK zk) ⟨⟨Tryz.func221,by decide⟩,trivial⟩ ⟨zb (ok114 n),
  zb (ok176 n),
  zb (ok250 n),trivial⟩ ⟨zg (fun _ => rfl) (by kernel_rfl) (castP (by kernel_rfl) (show True from trivial)) (castP (by kernel_rfl) (show True from trivial)),trivial⟩ trivial
theorem ok221 (n : Nat) : FnOK Tryz.prog SW 221 [.str,(.int .i64),(.int .i64)] (.many [(.int .i64),(.agg [(.int .i64),(.int .i64)])]) (fun x => F.zbi n x.1 x.2.1 x.2.2.1):=zh WOf.st (zq8 _ n) (d:=8) (fun x => by kernel_rfl)
noncomputable def cx188 (X : Type) (n : Nat) : Cx X:=mkCx tab.get [(188,Tryz.f188)] [(221,orcOf [.str,(.int .i64),(.int .i64)] (.many [(.int .i64),(.agg [(.int .i64),(.int .i64)])]) (fun x => F.zbi n x.1 x.2.1 x.2.2.1))] [] [] [] []
theorem zq9 (X : Type) (n : Nat) : CxOK Tryz.prog SW (cx188 X n):=zi mixed (tabOK zk) ⟨⟨Tryz.func188,by decide⟩,trivial⟩ ⟨zb (ok221 n),trivial⟩ ⟨zg (fun _ => rfl) (by kernel_rfl) (castP (by kernel_rfl) (show True from trivial)) (castP (by kernel_rfl) (show True from trivial)),trivial⟩ trivial
theorem ok188 (n : Nat) : FnOK Tryz.prog SW 188 [.str] (.many [(.int .i64),(.agg [(.int .i64),(.int .i64)])]) (fun x => F.zbc n x.1):=zh WOf.st (zq9 _ n) (d:=8) (fun x => by kernel_rfl)
noncomputable def cx162 (X : Type) (n : Nat) : Cx X:=mkCx tab.get [(162,Tryz.f162)] [(114,orcOf [(.int .i64),.str,(.int .i64),(.int .i64)] (.one (.agg [(.int .i64),(.int .i64)])) (fun x => F.zan n x.1 x.2.1 x.2.2.1 x.2.2.2.1))] [] [] [] []
theorem zra (X : Type) (n : Nat) : CxOK Tryz.prog SW (cx162 X n):=zi mixed (tabOK zk) ⟨⟨Tryz.func162,by decide⟩,trivial⟩ ⟨zb (ok114 n),trivial⟩ ⟨zg (fun _ => rfl) (by kernel_rfl) (castP (by kernel_rfl) (show True from trivial)) (castP (by kernel_rfl) (show True from trivial)),trivial⟩ trivial
theorem ok162 (n : Nat) : FnOK Tryz.prog SW 162 [(.agg [.str,.str])] (.one (.int .i64)) (fun x => F.zbj n x.1):=zh WOf.st (zra _ n) (d:=8) (fun x => by kernel_rfl)
def F.zaa.L4.head : Shape:=⟨[(3,(.const (.ref 0 0))),(4,(.sl (.agg [.str,.str]) (.own 0))),(5,(.int .i64)),(13,(.sl .str .unk)),(14,(.int .i64)),(15,(.int .i64))],[[(.int .i64),(.int .i64)]],[true],[],[],1,0,0⟩
def F.zaa.L4.e0 : Shape:=⟨[(3,(.const (.ref 0 0))),(4,(.sl (.agg [.str,.str]) (.own 0)))],[[(.int .i64),(.int .i64)]],[true],[],[],1,0,0⟩
def F.zaa.L4.er : Shape:=⟨[(2,(.sl (.agg [.str,.str]) (.own 0))),(3,(.const (.ref 0 0)))],[[(.int .i64),(.int .i64)]],[true],[],[],1,0,0⟩
noncomputable def F.zaa.L4.f {X : Type} (n m : Nat) (ks : Ks X) (s : F.zaa.L4.head.den) : Option X:=F.zaa.L4 n (fun q4 qb0_0 qb0_1 qk0 => ks.ex 0 (F.zaa.L4.e0.e (((),q4,()),((qb0_0,qb0_1,()),()),(qk0,()),())) (F.zaa.L4.e0.h (((),q4,()),((qb0_0,qb0_1,()),()),(qk0,()),()))) (fun q2 qb0_0 qb0_1 qk0 => ks.ret (F.zaa.L4.er.e ((q2,(),()),((qb0_0,qb0_1,()),()),(qk0,()),())) (F.zaa.L4.er.h ((q2,(),()),((qb0_0,qb0_1,()),()),(qk0,()),()))) m s.1.2.1 s.1.2.2.1 s.1.2.2.2.1 s.1.2.2.2.2.1 s.1.2.2.2.2.2.1 s.2.1.1.1 s.2.1.1.2.1 s.2.2.1.1
noncomputable def F.zaa.L4.li (X : Type) (n : Nat) : LoopI X:=⟨8,⟨0,0,0⟩,F.zaa.L4.head,[(0,F.zaa.L4.e0)],[F.zaa.L4.er],F.zaa.L4.f n n⟩
noncomputable def cx220 (X : Type) (n : Nat) : Cx X:=mkCx tab.get [(220,Tryz.f220)] [(113,orcOf [.str,.str] (.many [.str,.str,.bool]) (fun x => F.zah n x.1 x.2.1)),(126,orcOf [.str,.str] (.one (.sl .str .unk)) (fun x => O.split1 n x.1 x.2.1)),(162,orcOf [(.agg [.str,.str])] (.one (.int .i64)) (fun x => F.zbj n x.1))] [(220,4,[F.zaa.L4.li X n])] [] [] []
theorem F.zaa.L4.ok (X : Type) (n : Nat) : LoopOK (cx220 X n) 220 Tryz.f220.ntmps (loopNo Tryz.f220 0) (F.zaa.L4.li X n):=
  ⟨F.zaa.L4.f n,n,fun _ _ => rfl,fun _ _ => rfl,fun m ks s => by kernel_rfl⟩
theorem zrb (X : Type) (n : Nat) : CxOK Tryz.prog SW (cx220 X n):=zi mixed (tabOK zk) ⟨⟨Tryz.func220,by decide⟩,trivial⟩ ⟨zb (ok113 n),
  zb (ok126 n),
  zb (ok162 n),trivial⟩ ⟨zg (fun _ => rfl) (by kernel_rfl) (castP (by kernel_rfl) (show (LoopOK (cx220 X n) 220 Tryz.f220.ntmps (loopNo Tryz.f220 0) (F.zaa.L4.li X n) ∧ True) ∧ True from ⟨⟨F.zaa.L4.ok X n,trivial⟩,trivial⟩)) (castP (by kernel_rfl) (show True from trivial)),trivial⟩ trivial
theorem ok220 (n : Nat) : FnOK Tryz.prog SW 220 [.str] (.many [(.sl (.agg [.str,.str]) .unk),(.agg [(.int .i64),(.int .i64)])]) (fun x => F.zaa n x.1):=zh WOf.st (zrb _ n) (d:=8) (fun x => by kernel_rfl)
def F.ze.L9_dog_reader_first.head : Shape:=⟨[(0,(.const (.ref 2 0))),(4,(.const (.ref 4 0))),(8,(.int .i64)),(42,(.sl .str .unk)),(43,(.int .i64)),(44,(.int .i64))],[[.str,(.int .i64),(.sl (.agg [.bool,(.int .u64),(.int .i64)]) (.own 0)),(.int .i64),(.sl (.agg [.str,.str]) (.own 1)),(.int .i64)],[(.int .i64),(.int .i64)],[.str,(.int .i64),(.sl (.agg [.bool,(.int .u64),(.int .i64)]) (.own 2)),(.int .i64),(.sl (.agg [.str,.str]) .unk),(.int .i64),(.int .i64),(.int .i64)],[(.int .i64),(.int .i64)],[(.int .i64),(.int .i64)]],[true,true,true],[],[],5,3,0⟩
def F.ze.L9_dog_reader_first.e1 : Shape:=⟨[(4,(.const (.ref 4 0)))],[[.str,(.int .i64),(.sl (.agg [.bool,(.int .u64),(.int .i64)]) (.own 0)),(.int .i64),(.sl (.agg [.str,.str]) (.own 1)),(.int .i64)],[(.int .i64),(.int .i64)],[.str,(.int .i64),(.sl (.agg [.bool,(.int .u64),(.int .i64)]) (.own 2)),(.int .i64),(.sl (.agg [.str,.str]) .unk),(.int .i64),(.int .i64),(.int .i64)],[(.int .i64),(.int .i64)],[(.int .i64),(.int .i64)]],[true,true,true],[],[],5,3,0⟩
def F.ze.L9_dog_reader_first.er : Shape:=⟨[(4,(.const (.ref 4 0)))],[[.str,(.int .i64),(.sl (.agg [.bool,(.int .u64),(.int .i64)]) (.own 0)),(.int .i64),(.sl (.agg [.str,.str]) (.own 1)),(.int .i64)],[(.int .i64),(.int .i64)],[.str,(.int .i64),(.sl (.agg [.bool,(.int .u64),(.int .i64)]) (.own 2)),(.int .i64),(.sl (.agg [.str,.str]) .unk),(.int .i64),(.int .i64),(.int .i64)],[(.int .i64),(.int .i64)],[(.int .i64),(.int .i64)]],[true,true,true],[],[],5,3,0⟩
noncomputable def F.ze.L9_dog_reader_first.f {X : Type} (n m : Nat) (ks : Ks X) (s : F.ze.L9_dog_reader_first.head.den) : Option X:=F.ze.L9_dog_reader_first n (fun qb0_0 qb0_1 qb0_2 qb0_3 qb0_4 qb0_5 qb1_0 qb1_1 qb2_0 qb2_1 qb2_2 qb2_3 qb2_4 qb2_5 qb2_6 qb2_7 qb3_0 qb3_1 qb4_0 qb4_1 qk0 qk1 qk2 => ks.ex 1 (F.ze.L9_dog_reader_first.e1.e (((),()),((qb0_0,qb0_1,qb0_2,qb0_3,qb0_4,qb0_5,()),(qb1_0,qb1_1,()),(qb2_0,qb2_1,qb2_2,qb2_3,qb2_4,qb2_5,qb2_6,qb2_7,()),(qb3_0,qb3_1,()),(qb4_0,qb4_1,()),()),(qk0,qk1,qk2,()),())) (F.ze.L9_dog_reader_first.e1.h (((),()),((qb0_0,qb0_1,qb0_2,qb0_3,qb0_4,qb0_5,()),(qb1_0,qb1_1,()),(qb2_0,qb2_1,qb2_2,qb2_3,qb2_4,qb2_5,qb2_6,qb2_7,()),(qb3_0,qb3_1,()),(qb4_0,qb4_1,()),()),(qk0,qk1,qk2,()),()))) (fun qb0_0 qb0_1 qb0_2 qb0_3 qb0_4 qb0_5 qb1_0 qb1_1 qb2_0 qb2_1 qb2_2 qb2_3 qb2_4 qb2_5 qb2_6 qb2_7 qb3_0 qb3_1 qb4_0 qb4_1 qk0 qk1 qk2 => ks.ret (F.ze.L9_dog_reader_first.er.e (((),()),((qb0_0,qb0_1,qb0_2,qb0_3,qb0_4,qb0_5,()),(qb1_0,qb1_1,()),(qb2_0,qb2_1,qb2_2,qb2_3,qb2_4,qb2_5,qb2_6,qb2_7,()),(qb3_0,qb3_1,()),(qb4_0,qb4_1,()),()),(qk0,qk1,qk2,()),())) (F.ze.L9_dog_reader_first.er.h (((),()),((qb0_0,qb0_1,qb0_2,qb0_3,qb0_4,qb0_5,()),(qb1_0,qb1_1,()),(qb2_0,qb2_1,qb2_2,qb2_3,qb2_4,qb2_5,qb2_6,qb2_7,()),(qb3_0,qb3_1,()),(qb4_0,qb4_1,()),()),(qk0,qk1,qk2,()),()))) m s.1.2.2.1 s.1.2.2.2.1 s.1.2.2.2.2.1 s.1.2.2.2.2.2.1 s.2.1.1.1 s.2.1.1.2.1 s.2.1.1.2.2.1 s.2.1.1.2.2.2.1 s.2.1.1.2.2.2.2.1 s.2.1.1.2.2.2.2.2.1 s.2.1.2.1.1 s.2.1.2.1.2.1 s.2.1.2.2.1.1 s.2.1.2.2.1.2.1 s.2.1.2.2.1.2.2.1 s.2.1.2.2.1.2.2.2.1 s.2.1.2.2.1.2.2.2.2.1 s.2.1.2.2.1.2.2.2.2.2.1 s.2.1.2.2.1.2.2.2.2.2.2.1 s.2.1.2.2.1.2.2.2.2.2.2.2.1 s.2.1.2.2.2.1.1 s.2.1.2.2.2.1.2.1 s.2.1.2.2.2.2.1.1 s.2.1.2.2.2.2.1.2.1 s.2.2.1.1 s.2.2.1.2.1 s.2.2.1.2.2.1
noncomputable def F.ze.L9_dog_reader_first.li (X : Type) (n : Nat) : LoopI X:=⟨7,⟨4,3,0⟩,F.ze.L9_dog_reader_first.head,[(1,F.ze.L9_dog_reader_first.e1)],[F.ze.L9_dog_reader_first.er],F.ze.L9_dog_reader_first.f n n⟩
def F.ze.L2_dog_reader_more.head : Shape:=⟨[(0,(.const (.ref 2 0))),(1,.str),(4,(.const (.ref 4 0))),(19,(.agg [.str,(.const (.fn 184 [(.ref 2 0)] [])),.str,(.const (.fn 185 [(.ref 2 0)] [])),.str,(.const (.fn 186 [(.ref 2 0)] []))])),(20,(.int .i64))],[[.str,(.int .i64),(.sl (.agg [.bool,(.int .u64),(.int .i64)]) (.own 0)),(.int .i64),(.sl (.agg [.str,.str]) (.own 1)),(.int .i64)],[(.int .i64),(.int .i64)],[.str,(.int .i64),(.sl (.agg [.bool,(.int .u64),(.int .i64)]) (.own 2)),(.int .i64),(.sl (.agg [.str,.str]) .unk),(.int .i64),(.int .i64),(.int .i64)],[(.int .i64),(.int .i64)],[(.int .i64),(.int .i64)]],[true,true,true],[],[],5,3,0⟩
def F.ze.L2_dog_reader_more.e0 : Shape:=⟨[(0,(.const (.ref 2 0))),(4,(.const (.ref 4 0)))],[[.str,(.int .i64),(.sl (.agg [.bool,(.int .u64),(.int .i64)]) (.own 0)),(.int .i64),(.sl (.agg [.str,.str]) (.own 1)),(.int .i64)],[(.int .i64),(.int .i64)],[.str,(.int .i64),(.sl (.agg [.bool,(.int .u64),(.int .i64)]) (.own 2)),(.int .i64),(.sl (.agg [.str,.str]) .unk),(.int .i64),(.int .i64),(.int .i64)],[(.int .i64),(.int .i64)],[(.int .i64),(.int .i64)]],[true,true,true],[],[],5,3,0⟩
def F.ze.L2_dog_reader_more.er : Shape:=⟨[(4,(.const (.ref 4 0)))],[[.str,(.int .i64),(.sl (.agg [.bool,(.int .u64),(.int .i64)]) (.own 0)),(.int .i64),(.sl (.agg [.str,.str]) (.own 1)),(.int .i64)],[(.int .i64),(.int .i64)],[.str,(.int .i64),(.sl (.agg [.bool,(.int .u64),(.int .i64)]) (.own 2)),(.int .i64),(.sl (.agg [.str,.str]) .unk),(.int .i64),(.int .i64),(.int .i64)],[(.int .i64),(.int .i64)],[(.int .i64),(.int .i64)]],[true,true,true],[],[],5,3,0⟩
noncomputable def F.ze.L2_dog_reader_more.f {X : Type} (n m : Nat) (ks : Ks X) (s : F.ze.L2_dog_reader_more.head.den) : Option X:=F.ze.L2_dog_reader_more n (fun qb0_0 qb0_1 qb0_2 qb0_3 qb0_4 qb0_5 qb1_0 qb1_1 qb2_0 qb2_1 qb2_2 qb2_3 qb2_4 qb2_5 qb2_6 qb2_7 qb3_0 qb3_1 qb4_0 qb4_1 qk0 qk1 qk2 => ks.ex 0 (F.ze.L2_dog_reader_more.e0.e (((),(),()),((qb0_0,qb0_1,qb0_2,qb0_3,qb0_4,qb0_5,()),(qb1_0,qb1_1,()),(qb2_0,qb2_1,qb2_2,qb2_3,qb2_4,qb2_5,qb2_6,qb2_7,()),(qb3_0,qb3_1,()),(qb4_0,qb4_1,()),()),(qk0,qk1,qk2,()),())) (F.ze.L2_dog_reader_more.e0.h (((),(),()),((qb0_0,qb0_1,qb0_2,qb0_3,qb0_4,qb0_5,()),(qb1_0,qb1_1,()),(qb2_0,qb2_1,qb2_2,qb2_3,qb2_4,qb2_5,qb2_6,qb2_7,()),(qb3_0,qb3_1,()),(qb4_0,qb4_1,()),()),(qk0,qk1,qk2,()),()))) (fun qb0_0 qb0_1 qb0_2 qb0_3 qb0_4 qb0_5 qb1_0 qb1_1 qb2_0 qb2_1 qb2_2 qb2_3 qb2_4 qb2_5 qb2_6 qb2_7 qb3_0 qb3_1 qb4_0 qb4_1 qk0 qk1 qk2 => ks.ret (F.ze.L2_dog_reader_more.er.e (((),()),((qb0_0,qb0_1,qb0_2,qb0_3,qb0_4,qb0_5,()),(qb1_0,qb1_1,()),(qb2_0,qb2_1,qb2_2,qb2_3,qb2_4,qb2_5,qb2_6,qb2_7,()),(qb3_0,qb3_1,()),(qb4_0,qb4_1,()),()),(qk0,qk1,qk2,()),())) (F.ze.L2_dog_reader_more.er.h (((),()),((qb0_0,qb0_1,qb0_2,qb0_3,qb0_4,qb0_5,()),(qb1_0,qb1_1,()),(qb2_0,qb2_1,qb2_2,qb2_3,qb2_4,qb2_5,qb2_6,qb2_7,()),(qb3_0,qb3_1,()),(qb4_0,qb4_1,()),()),(qk0,qk1,qk2,()),()))) m s.1.2.1 s.1.2.2.2.1 s.1.2.2.2.2.1 s.2.1.1.1 s.2.1.1.2.1 s.2.1.1.2.2.1 s.2.1.1.2.2.2.1 s.2.1.1.2.2.2.2.1 s.2.1.1.2.2.2.2.2.1 s.2.1.2.1.1 s.2.1.2.1.2.1 s.2.1.2.2.1.1 s.2.1.2.2.1.2.1 s.2.1.2.2.1.2.2.1 s.2.1.2.2.1.2.2.2.1 s.2.1.2.2.1.2.2.2.2.1 s.2.1.2.2.1.2.2.2.2.2.1 s.2.1.2.2.1.2.2.2.2.2.2.1 s.2.1.2.2.1.2.2.2.2.2.2.2.1 s.2.1.2.2.2.1.1 s.2.1.2.2.2.1.2.1 s.2.1.2.2.2.2.1.1 s.2.1.2.2.2.2.1.2.1 s.2.2.1.1 s.2.2.1.2.1 s.2.2.1.2.2.1
noncomputable def F.ze.L2_dog_reader_more.li (X : Type) (n : Nat) : LoopI X:=⟨7,⟨4,3,0⟩,F.ze.L2_dog_reader_more.head,[(0,F.ze.L2_dog_reader_more.e0)],[F.ze.L2_dog_reader_more.er],F.ze.L2_dog_reader_more.f n n⟩
def F.ze.L8.head : Shape:=⟨[(0,.str),(2,(.const (.ref 0 0))),(3,(.const (.ref 1 0))),(4,(.const (.ref 2 0))),(5,(.sl .str .unk)),(6,(.const (.imms 2 [(.fn 127 [(.ref 2 0)] []),(.fn 128 [(.ref 2 0)] [])]))),(7,(.const (.ref 3 0))),(26,(.sl .str .unk)),(27,(.int .i64)),(28,(.int .i64))],[[.str,(.int .i64),(.sl (.agg [.bool,(.int .u64),(.int .i64)]) (.own 0)),(.int .i64),(.sl (.agg [.str,.str]) (.own 1)),(.int .i64)],[(.int .i64),(.int .i64)],[.str,(.int .i64),(.sl (.agg [.bool,(.int .u64),(.int .i64)]) (.own 2)),(.int .i64),(.sl (.agg [.str,.str]) .unk),(.int .i64),(.int .i64),(.int .i64)],[(.int .i64),(.int .i64)]],[true,true,true],[],[],4,0,0⟩
def F.ze.L8.e0 : Shape:=⟨[(0,.str),(2,(.const (.ref 0 0))),(3,(.const (.ref 1 0))),(4,(.const (.ref 2 0))),(5,(.sl .str .unk)),(6,(.const (.imms 2 [(.fn 127 [(.ref 2 0)] []),(.fn 128 [(.ref 2 0)] [])]))),(7,(.const (.ref 3 0)))],[[.str,(.int .i64),(.sl (.agg [.bool,(.int .u64),(.int .i64)]) (.own 0)),(.int .i64),(.sl (.agg [.str,.str]) (.own 1)),(.int .i64)],[(.int .i64),(.int .i64)],[.str,(.int .i64),(.sl (.agg [.bool,(.int .u64),(.int .i64)]) (.own 2)),(.int .i64),(.sl (.agg [.str,.str]) .unk),(.int .i64),(.int .i64),(.int .i64)],[(.int .i64),(.int .i64)]],[true,true,true],[],[],4,0,0⟩
noncomputable def F.ze.L8.f {X : Type} (n m : Nat) (ks : Ks X) (s : F.ze.L8.head.den) : Option X:=F.ze.L8 n (fun q0 q5 qb0_0 qb0_1 qb0_2 qb0_3 qb0_4 qb0_5 qb1_0 qb1_1 qb2_0 qb2_1 qb2_2 qb2_3 qb2_4 qb2_5 qb2_6 qb2_7 qb3_0 qb3_1 qk0 qk1 qk2 => ks.ex 0 (F.ze.L8.e0.e ((q0,(),(),(),q5,(),(),()),((qb0_0,qb0_1,qb0_2,qb0_3,qb0_4,qb0_5,()),(qb1_0,qb1_1,()),(qb2_0,qb2_1,qb2_2,qb2_3,qb2_4,qb2_5,qb2_6,qb2_7,()),(qb3_0,qb3_1,()),()),(qk0,qk1,qk2,()),())) (F.ze.L8.e0.h ((q0,(),(),(),q5,(),(),()),((qb0_0,qb0_1,qb0_2,qb0_3,qb0_4,qb0_5,()),(qb1_0,qb1_1,()),(qb2_0,qb2_1,qb2_2,qb2_3,qb2_4,qb2_5,qb2_6,qb2_7,()),(qb3_0,qb3_1,()),()),(qk0,qk1,qk2,()),()))) m s.1.1 s.1.2.2.2.2.1 s.1.2.2.2.2.2.2.2.1 s.1.2.2.2.2.2.2.2.2.1 s.1.2.2.2.2.2.2.2.2.2.1 s.2.1.1.1 s.2.1.1.2.1 s.2.1.1.2.2.1 s.2.1.1.2.2.2.1 s.2.1.1.2.2.2.2.1 s.2.1.1.2.2.2.2.2.1 s.2.1.2.1.1 s.2.1.2.1.2.1 s.2.1.2.2.1.1 s.2.1.2.2.1.2.1 s.2.1.2.2.1.2.2.1 s.2.1.2.2.1.2.2.2.1 s.2.1.2.2.1.2.2.2.2.1 s.2.1.2.2.1.2.2.2.2.2.1 s.2.1.2.2.1.2.2.2.2.2.2.1 s.2.1.2.2.1.2.2.2.2.2.2.2.1 s.2.1.2.2.2.1.1 s.2.1.2.2.2.1.2.1 s.2.2.1.1 s.2.2.1.2.1 s.2.2.1.2.2.1
noncomputable def F.ze.L8.li (X : Type) (n : Nat) : LoopI X:=⟨8,⟨0,0,0⟩,F.ze.L8.head,[(0,F.ze.L8.e0)],[],F.ze.L8.f n n⟩
noncomputable def cx60 (X : Type) (n : Nat) : Cx X:=mkCx tab.get [(60,Tryz.f60),(127,Tryz.f127),(128,Tryz.f128),(129,Tryz.f129),(182,Tryz.f182),(184,Tryz.f184),(185,Tryz.f185),(186,Tryz.f186)] [(68,orcOf [(.sl (.agg [.str,.str]) .unk)] (.one (.sl (.agg [.str,.str]) .unk)) (fun x => F.zz n x.1)),(113,orcOf [.str,.str] (.many [.str,.str,.bool]) (fun x => F.zah n x.1 x.2.1)),(114,orcOf [(.int .i64),.str,(.int .i64),(.int .i64)] (.one (.agg [(.int .i64),(.int .i64)])) (fun x => F.zan n x.1 x.2.1 x.2.2.1 x.2.2.2.1)),(116,orcOf [.str] (.many [(.agg [.bool,(.int .u64),(.int .i64)]),(.agg [(.int .i64),(.int .i64)])]) (fun x => F.z7 n x.1)),(119,orcOf [.str] (.many [(.int .i64),(.agg [(.int .i64),(.int .i64)])]) (fun x => F.zo n x.1)),(126,orcOf [.str,.str] (.one (.sl .str .unk)) (fun x => O.split1 n x.1 x.2.1)),(173,orcOf [.str,.str] (.many [.str,.bool]) (fun x => F.zaj n x.1 x.2.1)),(183,orcOf [.str] (.many [(.int .i64),(.int .i64)]) (fun x => F.zag n x.1)),(188,orcOf [.str] (.many [(.int .i64),(.agg [(.int .i64),(.int .i64)])]) (fun x => F.zbc n x.1)),(220,orcOf [.str] (.many [(.sl (.agg [.str,.str]) .unk),(.agg [(.int .i64),(.int .i64)])]) (fun x => F.zaa n x.1))] [(60,8,[F.ze.L8.li X n]),(127,9,[F.ze.L9_dog_reader_first.li X n]),(129,2,[F.ze.L2_dog_reader_more.li X n])] [] [(60,20,[(1,2)]),(60,21,[(4,5)])] []
theorem F.ze.L9_dog_reader_first.ok (X : Type) (n : Nat) : LoopOK (cx60 X n) 127 Tryz.f127.ntmps (loopNo Tryz.f127 0) (F.ze.L9_dog_reader_first.li X n):=
  ⟨F.ze.L9_dog_reader_first.f n,n,fun _ _ => rfl,fun _ _ => rfl,fun m ks s => by kernel_rfl⟩
theorem F.ze.L2_dog_reader_more.ok (X : Type) (n : Nat) : LoopOK (cx60 X n) 129 Tryz.f129.ntmps (loopNo Tryz.f129 0) (F.ze.L2_dog_reader_more.li X n):=
  ⟨F.ze.L2_dog_reader_more.f n,n,fun _ _ => rfl,fun _ _ => rfl,fun m ks s => by kernel_rfl⟩
theorem F.ze.L8.ok (X : Type) (n : Nat) : LoopOK (cx60 X n) 60 Tryz.f60.ntmps (loopNo Tryz.f60 0) (F.ze.L8.li X n):=
  ⟨F.ze.L8.f n,n,fun _ _ => rfl,fun _ _ => rfl,fun m ks s => by kernel_rfl⟩
theorem zs8 (X : Type) (n : Nat) : CxOK Tryz.prog SW (cx60 X n):=zi mixed (tabOK zk) ⟨⟨Tryz.func60,by decide⟩,
  ⟨Tryz.func127,by decide⟩,
  ⟨Tryz.func128,by decide⟩,
  ⟨Tryz.func129,by decide⟩,
  ⟨Tryz.func182,by decide⟩,
  ⟨Tryz.func184,by decide⟩,
  ⟨Tryz.func185,by decide⟩,
  ⟨Tryz.func186,by decide⟩,trivial⟩ ⟨zb (ok68 n),
  zb (ok113 n),
  zb (ok114 n),
  zb (ok116 n),
  zb (ok119 n),
  zb (ok126 n),
  zb (ok173 n),
  zb (ok183 n),
  zb (ok188 n),
  zb (ok220 n),trivial⟩ ⟨zg (fun _ => rfl) (by kernel_rfl) (castP (by kernel_rfl) (show (LoopOK (cx60 X n) 60 Tryz.f60.ntmps (loopNo Tryz.f60 0) (F.ze.L8.li X n) ∧ True) ∧ True from ⟨⟨F.ze.L8.ok X n,trivial⟩,trivial⟩)) (castP (by kernel_rfl) (show True from trivial)),
  zg (fun _ => rfl) (by kernel_rfl) (castP (by kernel_rfl) (show (LoopOK (cx60 X n) 127 Tryz.f127.ntmps (loopNo Tryz.f127 0) (F.ze.L9_dog_reader_first.li X n) ∧ True) ∧ True from ⟨⟨F.ze.L9_dog_reader_first.ok X n,trivial⟩,trivial⟩)) (castP (by kernel_rfl) (show True from trivial)),
  zg (fun _ => rfl) (by kernel_rfl) (castP (by kernel_rfl) (show True from trivial)) (castP (by kernel_rfl) (show True from trivial)),
  zg (fun _ => rfl) (by kernel_rfl) (castP (by kernel_rfl) (show (LoopOK (cx60 X n) 129 Tryz.f129.ntmps (loopNo Tryz.f129 0) (F.ze.L2_dog_reader_more.li X n) ∧ True) ∧ True from ⟨⟨F.ze.L2_dog_reader_more.ok X n,trivial⟩,trivial⟩)) (castP (by kernel_rfl) (show True from trivial)),
  zg (fun _ => rfl) (by kernel_rfl) (castP (by kernel_rfl) (show True from trivial)) (castP (by kernel_rfl) (show True from trivial)),
  zg (fun _ => rfl) (by kernel_rfl) (castP (by kernel_rfl) (show True from trivial)) (castP (by kernel_rfl) (show True from trivial)),
  zg (fun _ => rfl) (by kernel_rfl) (castP (by kernel_rfl) (show True from trivial)) (castP (by kernel_rfl) (show True from trivial)),
  zg (fun _ => rfl) (by kernel_rfl) (castP (by kernel_rfl) (show True from trivial)) (castP (by kernel_rfl) (show True from trivial)),trivial⟩ trivial
theorem ok60 (n : Nat) : FnOK Tryz.prog SW 60 [.str] (.many [(.agg [.str,(.int .i64),(.sl (.agg [.bool,(.int .u64),(.int .i64)]) .unk),(.int .i64),(.sl (.agg [.str,.str]) .unk),(.int .i64)]),(.agg [(.int .i64),(.int .i64)])]) (fun x => F.ze n x.1):=zh WOf.st (zs8 _ n) (d:=8) (fun x => by kernel_rfl)
def F.zm.L2_graphite_cut_1.head : Shape:=⟨[(0,(.const (.yield 0))),(1,(.const (.ref 4 0))),(3,(.int .i64)),(4,(.int .i64)),(5,.bool)],[[.str,(.int .i64),(.sl (.agg [.bool,(.int .u64),(.int .i64)]) (.own 0)),(.int .i64),(.sl (.agg [.str,.str]) (.own 1)),(.int .i64)],[(.int .i64),(.int .i64)],[.str,(.int .i64),(.sl (.agg [.bool,(.int .u64),(.int .i64)]) (.own 2)),(.int .i64),(.sl (.agg [.str,.str]) (.own 3)),(.int .i64)],[(.int .i64),(.int .i64)],[.str]],[true,true,true,true],[.ready],[(0,62,4,[(4,(.const (.ref 2 0))),(5,(.const (.ref 3 0)))])],5,0,1⟩
def F.zm.L2_graphite_cut_1.e0 : Shape:=⟨[],[[.str,(.int .i64),(.sl (.agg [.bool,(.int .u64),(.int .i64)]) (.own 0)),(.int .i64),(.sl (.agg [.str,.str]) (.own 1)),(.int .i64)],[(.int .i64),(.int .i64)],[.str,(.int .i64),(.sl (.agg [.bool,(.int .u64),(.int .i64)]) (.own 2)),(.int .i64),(.sl (.agg [.str,.str]) (.own 3)),(.int .i64)],[(.int .i64),(.int .i64)],[.str]],[true,true,true,true],[.ready],[],5,0,1⟩
def F.zm.L2_graphite_cut_1.er : Shape:=⟨[],[[.str,(.int .i64),(.sl (.agg [.bool,(.int .u64),(.int .i64)]) (.own 0)),(.int .i64),(.sl (.agg [.str,.str]) (.own 1)),(.int .i64)],[(.int .i64),(.int .i64)],[.str,(.int .i64),(.sl (.agg [.bool,(.int .u64),(.int .i64)]) (.own 2)),(.int .i64),(.sl (.agg [.str,.str]) (.own 3)),(.int .i64)],[(.int .i64),(.int .i64)],[.str]],[true,true,true,true],[.done (.ex 0)],[],5,0,1⟩
noncomputable def F.zm.L2_graphite_cut_1.f {X : Type} (n m : Nat) (ks : Ks X) (s : F.zm.L2_graphite_cut_1.head.den) : Option X:=F.zm.L2_graphite_cut_1 n (fun qb0_0 qb0_1 qb0_2 qb0_3 qb0_4 qb0_5 qb1_0 qb1_1 qb2_0 qb2_1 qb2_2 qb2_3 qb2_4 qb2_5 qb3_0 qb3_1 qb4_0 qk0 qk1 qk2 qk3 => ks.ex 0 (F.zm.L2_graphite_cut_1.e0.e ((),((qb0_0,qb0_1,qb0_2,qb0_3,qb0_4,qb0_5,()),(qb1_0,qb1_1,()),(qb2_0,qb2_1,qb2_2,qb2_3,qb2_4,qb2_5,()),(qb3_0,qb3_1,()),(qb4_0,()),()),(qk0,qk1,qk2,qk3,()),())) (F.zm.L2_graphite_cut_1.e0.h ((),((qb0_0,qb0_1,qb0_2,qb0_3,qb0_4,qb0_5,()),(qb1_0,qb1_1,()),(qb2_0,qb2_1,qb2_2,qb2_3,qb2_4,qb2_5,()),(qb3_0,qb3_1,()),(qb4_0,()),()),(qk0,qk1,qk2,qk3,()),()))) (fun qb0_0 qb0_1 qb0_2 qb0_3 qb0_4 qb0_5 qb1_0 qb1_1 qb2_0 qb2_1 qb2_2 qb2_3 qb2_4 qb2_5 qb3_0 qb3_1 qb4_0 qk0 qk1 qk2 qk3 => ks.ret (F.zm.L2_graphite_cut_1.er.e ((),((qb0_0,qb0_1,qb0_2,qb0_3,qb0_4,qb0_5,()),(qb1_0,qb1_1,()),(qb2_0,qb2_1,qb2_2,qb2_3,qb2_4,qb2_5,()),(qb3_0,qb3_1,()),(qb4_0,()),()),(qk0,qk1,qk2,qk3,()),())) (F.zm.L2_graphite_cut_1.er.h ((),((qb0_0,qb0_1,qb0_2,qb0_3,qb0_4,qb0_5,()),(qb1_0,qb1_1,()),(qb2_0,qb2_1,qb2_2,qb2_3,qb2_4,qb2_5,()),(qb3_0,qb3_1,()),(qb4_0,()),()),(qk0,qk1,qk2,qk3,()),()))) m s.1.2.2.1 s.1.2.2.2.1 s.1.2.2.2.2.1 s.2.1.1.1 s.2.1.1.2.1 s.2.1.1.2.2.1 s.2.1.1.2.2.2.1 s.2.1.1.2.2.2.2.1 s.2.1.1.2.2.2.2.2.1 s.2.1.2.1.1 s.2.1.2.1.2.1 s.2.1.2.2.1.1 s.2.1.2.2.1.2.1 s.2.1.2.2.1.2.2.1 s.2.1.2.2.1.2.2.2.1 s.2.1.2.2.1.2.2.2.2.1 s.2.1.2.2.1.2.2.2.2.2.1 s.2.1.2.2.2.1.1 s.2.1.2.2.2.1.2.1 s.2.1.2.2.2.2.1.1 s.2.2.1.1 s.2.2.1.2.1 s.2.2.1.2.2.1 s.2.2.1.2.2.2.1
noncomputable def F.zm.L2_graphite_cut_1.li (X : Type) (n : Nat) : LoopI X:=⟨7,⟨5,0,1⟩,F.zm.L2_graphite_cut_1.head,[(0,F.zm.L2_graphite_cut_1.e0)],[F.zm.L2_graphite_cut_1.er],F.zm.L2_graphite_cut_1.f n n⟩
noncomputable def cx62 (X : Type) (n : Nat) : Cx X:=mkCx tab.get [(62,Tryz.f62),(130,Tryz.f130),(131,Tryz.f131),(187,Tryz.f187)] [(113,orcOf [.str,.str] (.many [.str,.str,.bool]) (fun x => F.zah n x.1 x.2.1)),(114,orcOf [(.int .i64),.str,(.int .i64),(.int .i64)] (.one (.agg [(.int .i64),(.int .i64)])) (fun x => F.zan n x.1 x.2.1 x.2.2.1 x.2.2.2.1)),(116,orcOf [.str] (.many [(.agg [.bool,(.int .u64),(.int .i64)]),(.agg [(.int .i64),(.int .i64)])]) (fun x => F.z7 n x.1)),(188,orcOf [.str] (.many [(.int .i64),(.agg [(.int .i64),(.int .i64)])]) (fun x => F.zbc n x.1))] [(187,2,[F.zm.L2_graphite_cut_1.li X n])] [(62,4,Tryz.f62,[4,5],0)] [(62,13,[(1,2)]),(62,14,[(1,2)])] []
theorem F.zm.L2_graphite_cut_1.ok (X : Type) (n : Nat) : LoopOK (cx62 X n) 187 Tryz.f187.ntmps (loopNo Tryz.f187 0) (F.zm.L2_graphite_cut_1.li X n):=
  ⟨F.zm.L2_graphite_cut_1.f n,n,fun _ _ => rfl,fun _ _ => rfl,fun m ks s => by kernel_rfl⟩
theorem zs9 (X : Type) (n : Nat) : CxOK Tryz.prog SW (cx62 X n):=zi mixed (tabOK zk) ⟨⟨Tryz.func62,by decide⟩,
  ⟨Tryz.func130,by decide⟩,
  ⟨Tryz.func131,by decide⟩,
  ⟨Tryz.func187,by decide⟩,trivial⟩ ⟨zb (ok113 n),
  zb (ok114 n),
  zb (ok116 n),
  zb (ok188 n),trivial⟩ ⟨zg (fun _ => rfl) (by kernel_rfl) (castP (by kernel_rfl) (show True from trivial)) (castP (by kernel_rfl) (show (∀ i,some 4 = some i→∃ lv,(cx62 X n).rfs 62 i = some (Tryz.f62.ntmps,lv,rfNo Tryz.f62 0)) ∧ True from ⟨(fun i h => by cases h; exact ⟨[4,5],by kernel_rfl⟩),trivial⟩)),
  zg (fun _ => rfl) (by kernel_rfl) (castP (by kernel_rfl) (show True from trivial)) (castP (by kernel_rfl) (show True from trivial)),
  zg (fun _ => rfl) (by kernel_rfl) (castP (by kernel_rfl) (show True from trivial)) (castP (by kernel_rfl) (show True from trivial)),
  zg (fun _ => rfl) (by kernel_rfl) (castP (by kernel_rfl) (show (LoopOK (cx62 X n) 187 Tryz.f187.ntmps (loopNo Tryz.f187 0) (F.zm.L2_graphite_cut_1.li X n) ∧ True) ∧ True from ⟨⟨F.zm.L2_graphite_cut_1.ok X n,trivial⟩,trivial⟩)) (castP (by kernel_rfl) (show True from trivial)),trivial⟩ ⟨⟨Tryz.func62,rfl⟩,trivial⟩
theorem ok62 (n : Nat) : FnOK Tryz.prog SW 62 [.str] (.many [(.agg [.str,(.int .i64),(.sl (.agg [.bool,(.int .u64),(.int .i64)]) .unk),(.int .i64),(.sl (.agg [.str,.str]) .unk),(.int .i64)]),(.agg [(.int .i64),(.int .i64)])]) (fun x => F.zm n x.1):=zh WOf.st (zs9 _ n) (d:=8) (fun x => by kernel_rfl)
noncomputable def cx15 (X : Type) (n : Nat) : Cx X:=mkCx tab.get [(15,Tryz.f15),(32,Tryz.f32)] [(58,orcOf [.str] (.many [(.agg [.str,(.int .i64),(.sl (.agg [.bool,(.int .u64),(.int .i64)]) .unk),(.int .i64),(.sl (.agg [.str,.str]) .unk),(.int .i64)]),(.agg [(.int .i64),(.int .i64)])]) (fun x => F.za n x.1)),(60,orcOf [.str] (.many [(.agg [.str,(.int .i64),(.sl (.agg [.bool,(.int .u64),(.int .i64)]) .unk),(.int .i64),(.sl (.agg [.str,.str]) .unk),(.int .i64)]),(.agg [(.int .i64),(.int .i64)])]) (fun x => F.ze n x.1)),(62,orcOf [.str] (.many [(.agg [.str,(.int .i64),(.sl (.agg [.bool,(.int .u64),(.int .i64)]) .unk),(.int .i64),(.sl (.agg [.str,.str]) .unk),(.int .i64)]),(.agg [(.int .i64),(.int .i64)])]) (fun x => F.zm n x.1))] [] [] [] []
theorem zta (X : Type) (n : Nat) : CxOK Tryz.prog SW (cx15 X n):=zi mixed (tabOK zk) ⟨⟨Tryz.func15,by decide⟩,
  ⟨Tryz.func32,by decide⟩,trivial⟩ ⟨zb (ok58 n),
  zb (ok60 n),
  zb (ok62 n),trivial⟩ ⟨zg (fun _ => rfl) (by kernel_rfl) (castP (by kernel_rfl) (show True from trivial)) (castP (by kernel_rfl) (show True from trivial)),
  zg (fun _ => rfl) (by kernel_rfl) (castP (by kernel_rfl) (show True from trivial)) (castP (by kernel_rfl) (show True from trivial)),trivial⟩ trivial
theorem ok15 (n : Nat) : FnOK Tryz.prog SW 15 [.str,(.int .i64)] (.many [(.agg [.str,(.int .i64),(.sl (.agg [.bool,(.int .u64),(.int .i64)]) .unk),(.int .i64),(.sl (.agg [.str,.str]) .unk),(.int .i64)]),(.agg [(.int .i64),(.int .i64)])]) (fun x => F.zav n x.1 x.2.1):=zh WOf.st (zta _ n) (d:=8) (fun x => by kernel_rfl)
noncomputable def cx133 (X : Type) (n : Nat) : Cx X:=mkCx tab.get [(133,Tryz.f133)] [] [] [] [] []
theorem zrc (X : Type) (n : Nat) : CxOK Tryz.prog SW (cx133 X n):=zi mixed (tabOK zk) ⟨⟨Tryz.func133,by decide⟩,trivial⟩ trivial ⟨zg (fun _ => rfl) (by kernel_rfl) (castP (by kernel_rfl) (show True from trivial)) (castP (by kernel_rfl) (show True from trivial)),trivial⟩ trivial
theorem ok133 (n : Nat) : FnOK Tryz.prog SW 133 [.str,.str] (.one .bool) (fun x => F.zas n x.1 x.2.1):=zh WOf.st (zrc _ n) (d:=8) (fun x => by kernel_rfl)
noncomputable def cx65 (X : Type) (n : Nat) : Cx X:=mkCx tab.get [(65,Tryz.f65)] [(133,orcOf [.str,.str] (.one .bool) (fun x => F.zas n x.1 x.2.1))] [] [] [] []
theorem ztb (X : Type) (n : Nat) : CxOK Tryz.prog SW (cx65 X n):=zi mixed (tabOK zk) ⟨⟨Tryz.func65,by decide⟩,trivial⟩ ⟨zb (ok133 n),trivial⟩ ⟨zg (fun _ => rfl) (by kernel_rfl) (castP (by kernel_rfl) (show True from trivial)) (castP (by kernel_rfl) (show True from trivial)),trivial⟩ trivial
theorem ok65 (n : Nat) : FnOK Tryz.prog SW 65 [.str,.str] (.many [.str,.bool]) (fun x => F.zat n x.1 x.2.1):=zh WOf.st (ztb _ n) (d:=8) (fun x => by kernel_rfl)
noncomputable def cx34 (X : Type) (n : Nat) : Cx X:=mkCx tab.get [(34,Tryz.f34)] [(65,orcOf [.str,.str] (.many [.str,.bool]) (fun x => F.zat n x.1 x.2.1))] [] [] [] []
theorem ztc (X : Type) (n : Nat) : CxOK Tryz.prog SW (cx34 X n):=zi mixed (tabOK zk) ⟨⟨Tryz.func34,by decide⟩,trivial⟩ ⟨zb (ok65 n),trivial⟩ ⟨zg (fun _ => rfl) (by kernel_rfl) (castP (by kernel_rfl) (show True from trivial)) (castP (by kernel_rfl) (show True from trivial)),trivial⟩ trivial
theorem ok34 (n : Nat) : FnOK Tryz.prog SW 34 [.str,.str] (.many [.str,.bool]) (fun x => F.zak n x.1 x.2.1):=zh WOf.st (ztc _ n) (d:=8) (fun x => by kernel_rfl)
theorem ok132 (n : Nat) : FnOK Tryz.prog SW 132 [.str,(.int .u8)] (.one (.int .i64)) (fun x => O.indexB n x.1 x.2.1):=zo0 (enters Tryz.func132 (by kernel_rfl) (by decide)) Tryz.stringslite_IndexByte n
noncomputable def cx64 (X : Type) (n : Nat) : Cx X:=mkCx tab.get [(64,Tryz.f64)] [(132,orcOf [.str,(.int .u8)] (.one (.int .i64)) (fun x => O.indexB n x.1 x.2.1))] [] [] [] []
theorem ztd (X : Type) (n : Nat) : CxOK Tryz.prog SW (cx64 X n):=zi mixed (tabOK zk) ⟨⟨Tryz.func64,by decide⟩,trivial⟩ ⟨zb (ok132 n),trivial⟩ ⟨zg (fun _ => rfl) (by kernel_rfl) (castP (by kernel_rfl) (show True from trivial)) (castP (by kernel_rfl) (show True from trivial)),trivial⟩ trivial
theorem ok64 (n : Nat) : FnOK Tryz.prog SW 64 [.str,(.int .u8)] (.one (.int .i64)) (fun x => F.zau n x.1 x.2.1):=zh WOf.st (ztd _ n) (d:=8) (fun x => by kernel_rfl)
def F.zd.L0_strings_Lines_1.head : Shape:=⟨[(0,(.const (.yield 0))),(1,(.const (.ref 7 0)))],[[(.int .i64)],[(.sl (.agg [.str,(.int .i64),(.sl (.agg [.bool,(.int .u64),(.int .i64)])),(.int .i64),(.sl (.agg [.str,.str])),(.int .i64)]) (.own 0))],[(.int .i64),(.int .i64)],[(.const (.fn 57 [] [])),(.const (.fn 58 [] []))],[(.const (.fn 57 [] [])),(.const (.fn 58 [] []))],[(.sl (.agg [.str,(.int .i64),(.sl (.agg [.bool,(.int .u64),(.int .i64)])),(.int .i64),(.sl (.agg [.str,.str])),(.int .i64)]) (.own 1))],[(.int .i64)],[.str]],[true,true],[.ready],[(0,10,7,[(3,(.const (.ref 0 0))),(4,(.const (.ref 1 0))),(5,(.const (.ref 2 0))),(8,(.const (.ref 5 0))),(9,(.const (.ref 6 0)))])],8,0,1⟩
def F.zd.L0_strings_Lines_1.e0 : Shape:=⟨[],[[(.int .i64)],[(.sl (.agg [.str,(.int .i64),(.sl (.agg [.bool,(.int .u64),(.int .i64)])),(.int .i64),(.sl (.agg [.str,.str])),(.int .i64)]) (.own 0))],[(.int .i64),(.int .i64)],[(.const (.fn 57 [] [])),(.const (.fn 58 [] []))],[(.const (.fn 57 [] [])),(.const (.fn 58 [] []))],[(.sl (.agg [.str,(.int .i64),(.sl (.agg [.bool,(.int .u64),(.int .i64)])),(.int .i64),(.sl (.agg [.str,.str])),(.int .i64)]) (.own 1))],[(.int .i64)],[.str]],[true,true],[.ready],[],8,0,1⟩
def F.zd.L0_strings_Lines_1.er : Shape:=⟨[],[[(.int .i64)],[(.sl (.agg [.str,(.int .i64),(.sl (.agg [.bool,(.int .u64),(.int .i64)])),(.int .i64),(.sl (.agg [.str,.str])),(.int .i64)]) (.own 0))],[(.int .i64),(.int .i64)],[(.const (.fn 57 [] [])),(.const (.fn 58 [] []))],[(.const (.fn 57 [] [])),(.const (.fn 58 [] []))],[(.sl (.agg [.str,(.int .i64),(.sl (.agg [.bool,(.int .u64),(.int .i64)])),(.int .i64),(.sl (.agg [.str,.str])),(.int .i64)]) (.own 1))],[(.int .i64)],[.str]],[true,true],[.done .ret],[],8,0,1⟩
noncomputable def F.zd.L0_strings_Lines_1.f {X : Type} (n m : Nat) (ks : Ks X) (s : F.zd.L0_strings_Lines_1.head.den) : Option X:=F.zd.L0_strings_Lines_1 n (fun qb0_0 qb1_0 qb2_0 qb2_1 qb5_0 qb6_0 qb7_0 qk0 qk1 => ks.ex 0 (F.zd.L0_strings_Lines_1.e0.e ((),((qb0_0,()),(qb1_0,()),(qb2_0,qb2_1,()),((),(),()),((),(),()),(qb5_0,()),(qb6_0,()),(qb7_0,()),()),(qk0,qk1,()),())) (F.zd.L0_strings_Lines_1.e0.h ((),((qb0_0,()),(qb1_0,()),(qb2_0,qb2_1,()),((),(),()),((),(),()),(qb5_0,()),(qb6_0,()),(qb7_0,()),()),(qk0,qk1,()),()))) (fun qb0_0 qb1_0 qb2_0 qb2_1 qb5_0 qb6_0 qb7_0 qk0 qk1 => ks.ret (F.zd.L0_strings_Lines_1.er.e ((),((qb0_0,()),(qb1_0,()),(qb2_0,qb2_1,()),((),(),()),((),(),()),(qb5_0,()),(qb6_0,()),(qb7_0,()),()),(qk0,qk1,()),())) (F.zd.L0_strings_Lines_1.er.h ((),((qb0_0,()),(qb1_0,()),(qb2_0,qb2_1,()),((),(),()),((),(),()),(qb5_0,()),(qb6_0,()),(qb7_0,()),()),(qk0,qk1,()),()))) m s.2.1.1.1 s.2.1.2.1.1 s.2.1.2.2.1.1 s.2.1.2.2.1.2.1 s.2.1.2.2.2.2.2.1.1 s.2.1.2.2.2.2.2.2.1.1 s.2.1.2.2.2.2.2.2.2.1.1 s.2.2.1.1 s.2.2.1.2.1
noncomputable def F.zd.L0_strings_Lines_1.li (X : Type) (n : Nat) : LoopI X:=⟨7,⟨8,0,1⟩,F.zd.L0_strings_Lines_1.head,[(0,F.zd.L0_strings_Lines_1.e0)],[F.zd.L0_strings_Lines_1.er],F.zd.L0_strings_Lines_1.f n n⟩
def F.zd.L0_strings_Lines_1_1.head : Shape:=⟨[(0,(.const (.yield 0))),(1,(.const (.ref 7 0)))],[[(.int .i64)],[(.sl (.agg [.str,(.int .i64),(.sl (.agg [.bool,(.int .u64),(.int .i64)])),(.int .i64),(.sl (.agg [.str,.str])),(.int .i64)]) (.own 0))],[(.int .i64),(.int .i64)],[(.const (.fn 59 [] [])),(.const (.fn 60 [] []))],[(.const (.fn 59 [] [])),(.const (.fn 60 [] []))],[(.sl (.agg [.str,(.int .i64),(.sl (.agg [.bool,(.int .u64),(.int .i64)])),(.int .i64),(.sl (.agg [.str,.str])),(.int .i64)]) (.own 1))],[(.int .i64)],[.str]],[true,true],[.ready],[(0,10,7,[(3,(.const (.ref 0 0))),(4,(.const (.ref 1 0))),(5,(.const (.ref 2 0))),(8,(.const (.ref 5 0))),(9,(.const (.ref 6 0)))])],8,0,1⟩
def F.zd.L0_strings_Lines_1_1.e0 : Shape:=⟨[],[[(.int .i64)],[(.sl (.agg [.str,(.int .i64),(.sl (.agg [.bool,(.int .u64),(.int .i64)])),(.int .i64),(.sl (.agg [.str,.str])),(.int .i64)]) (.own 0))],[(.int .i64),(.int .i64)],[(.const (.fn 59 [] [])),(.const (.fn 60 [] []))],[(.const (.fn 59 [] [])),(.const (.fn 60 [] []))],[(.sl (.agg [.str,(.int .i64),(.sl (.agg [.bool,(.int .u64),(.int .i64)])),(.int .i64),(.sl (.agg [.str,.str])),(.int .i64)]) (.own 1))],[(.int .i64)],[.str]],[true,true],[.ready],[],8,0,1⟩
def F.zd.L0_strings_Lines_1_1.er : Shape:=⟨[],[[(.int .i64)],[(.sl (.agg [.str,(.int .i64),(.sl (.agg [.bool,(.int .u64),(.int .i64)])),(.int .i64),(.sl (.agg [.str,.str])),(.int .i64)]) (.own 0))],[(.int .i64),(.int .i64)],[(.const (.fn 59 [] [])),(.const (.fn 60 [] []))],[(.const (.fn 59 [] [])),(.const (.fn 60 [] []))],[(.sl (.agg [.str,(.int .i64),(.sl (.agg [.bool,(.int .u64),(.int .i64)])),(.int .i64),(.sl (.agg [.str,.str])),(.int .i64)]) (.own 1))],[(.int .i64)],[.str]],[true,true],[.done .ret],[],8,0,1⟩
noncomputable def F.zd.L0_strings_Lines_1_1.f {X : Type} (n m : Nat) (ks : Ks X) (s : F.zd.L0_strings_Lines_1_1.head.den) : Option X:=F.zd.L0_strings_Lines_1_1 n (fun qb0_0 qb1_0 qb2_0 qb2_1 qb5_0 qb6_0 qb7_0 qk0 qk1 => ks.ex 0 (F.zd.L0_strings_Lines_1_1.e0.e ((),((qb0_0,()),(qb1_0,()),(qb2_0,qb2_1,()),((),(),()),((),(),()),(qb5_0,()),(qb6_0,()),(qb7_0,()),()),(qk0,qk1,()),())) (F.zd.L0_strings_Lines_1_1.e0.h ((),((qb0_0,()),(qb1_0,()),(qb2_0,qb2_1,()),((),(),()),((),(),()),(qb5_0,()),(qb6_0,()),(qb7_0,()),()),(qk0,qk1,()),()))) (fun qb0_0 qb1_0 qb2_0 qb2_1 qb5_0 qb6_0 qb7_0 qk0 qk1 => ks.ret (F.zd.L0_strings_Lines_1_1.er.e ((),((qb0_0,()),(qb1_0,()),(qb2_0,qb2_1,()),((),(),()),((),(),()),(qb5_0,()),(qb6_0,()),(qb7_0,()),()),(qk0,qk1,()),())) (F.zd.L0_strings_Lines_1_1.er.h ((),((qb0_0,()),(qb1_0,()),(qb2_0,qb2_1,()),((),(),()),((),(),()),(qb5_0,()),(qb6_0,()),(qb7_0,()),()),(qk0,qk1,()),()))) m s.2.1.1.1 s.2.1.2.1.1 s.2.1.2.2.1.1 s.2.1.2.2.1.2.1 s.2.1.2.2.2.2.2.1.1 s.2.1.2.2.2.2.2.2.1.1 s.2.1.2.2.2.2.2.2.2.1.1 s.2.2.1.1 s.2.2.1.2.1
noncomputable def F.zd.L0_strings_Lines_1_1.li (X : Type) (n : Nat) : LoopI X:=⟨7,⟨8,0,1⟩,F.zd.L0_strings_Lines_1_1.head,[(0,F.zd.L0_strings_Lines_1_1.e0)],[F.zd.L0_strings_Lines_1_1.er],F.zd.L0_strings_Lines_1_1.f n n⟩
def F.zd.L0_strings_Lines_1_2.head : Shape:=⟨[(0,(.const (.yield 0))),(1,(.const (.ref 7 0)))],[[(.int .i64)],[(.sl (.agg [.str,(.int .i64),(.sl (.agg [.bool,(.int .u64),(.int .i64)])),(.int .i64),(.sl (.agg [.str,.str])),(.int .i64)]) (.own 0))],[(.int .i64),(.int .i64)],[(.const (.fn 61 [] [])),(.const (.fn 62 [] []))],[(.const (.fn 61 [] [])),(.const (.fn 62 [] []))],[(.sl (.agg [.str,(.int .i64),(.sl (.agg [.bool,(.int .u64),(.int .i64)])),(.int .i64),(.sl (.agg [.str,.str])),(.int .i64)]) (.own 1))],[(.int .i64)],[.str]],[true,true],[.ready],[(0,10,7,[(3,(.const (.ref 0 0))),(4,(.const (.ref 1 0))),(5,(.const (.ref 2 0))),(8,(.const (.ref 5 0))),(9,(.const (.ref 6 0)))])],8,0,1⟩
def F.zd.L0_strings_Lines_1_2.e0 : Shape:=⟨[],[[(.int .i64)],[(.sl (.agg [.str,(.int .i64),(.sl (.agg [.bool,(.int .u64),(.int .i64)])),(.int .i64),(.sl (.agg [.str,.str])),(.int .i64)]) (.own 0))],[(.int .i64),(.int .i64)],[(.const (.fn 61 [] [])),(.const (.fn 62 [] []))],[(.const (.fn 61 [] [])),(.const (.fn 62 [] []))],[(.sl (.agg [.str,(.int .i64),(.sl (.agg [.bool,(.int .u64),(.int .i64)])),(.int .i64),(.sl (.agg [.str,.str])),(.int .i64)]) (.own 1))],[(.int .i64)],[.str]],[true,true],[.ready],[],8,0,1⟩
def F.zd.L0_strings_Lines_1_2.er : Shape:=⟨[],[[(.int .i64)],[(.sl (.agg [.str,(.int .i64),(.sl (.agg [.bool,(.int .u64),(.int .i64)])),(.int .i64),(.sl (.agg [.str,.str])),(.int .i64)]) (.own 0))],[(.int .i64),(.int .i64)],[(.const (.fn 61 [] [])),(.const (.fn 62 [] []))],[(.const (.fn 61 [] [])),(.const (.fn 62 [] []))],[(.sl (.agg [.str,(.int .i64),(.sl (.agg [.bool,(.int .u64),(.int .i64)])),(.int .i64),(.sl (.agg [.str,.str])),(.int .i64)]) (.own 1))],[(.int .i64)],[.str]],[true,true],[.done .ret],[],8,0,1⟩
noncomputable def F.zd.L0_strings_Lines_1_2.f {X : Type} (n m : Nat) (ks : Ks X) (s : F.zd.L0_strings_Lines_1_2.head.den) : Option X:=F.zd.L0_strings_Lines_1_2 n (fun qb0_0 qb1_0 qb2_0 qb2_1 qb5_0 qb6_0 qb7_0 qk0 qk1 => ks.ex 0 (F.zd.L0_strings_Lines_1_2.e0.e ((),((qb0_0,()),(qb1_0,()),(qb2_0,qb2_1,()),((),(),()),((),(),()),(qb5_0,()),(qb6_0,()),(qb7_0,()),()),(qk0,qk1,()),())) (F.zd.L0_strings_Lines_1_2.e0.h ((),((qb0_0,()),(qb1_0,()),(qb2_0,qb2_1,()),((),(),()),((),(),()),(qb5_0,()),(qb6_0,()),(qb7_0,()),()),(qk0,qk1,()),()))) (fun qb0_0 qb1_0 qb2_0 qb2_1 qb5_0 qb6_0 qb7_0 qk0 qk1 => ks.ret (F.zd.L0_strings_Lines_1_2.er.e ((),((qb0_0,()),(qb1_0,()),(qb2_0,qb2_1,()),((),(),()),((),(),()),(qb5_0,()),(qb6_0,()),(qb7_0,()),()),(qk0,qk1,()),())) (F.zd.L0_strings_Lines_1_2.er.h ((),((qb0_0,()),(qb1_0,()),(qb2_0,qb2_1,()),((),(),()),((),(),()),(qb5_0,()),(qb6_0,()),(qb7_0,()),()),(qk0,qk1,()),()))) m s.2.1.1.1 s.2.1.2.1.1 s.2.1.2.2.1.1 s.2.1.2.2.1.2.1 s.2.1.2.2.2.2.2.1.1 s.2.1.2.2.2.2.2.2.1.1 s.2.1.2.2.2.2.2.2.2.1.1 s.2.2.1.1 s.2.2.1.2.1
noncomputable def F.zd.L0_strings_Lines_1_2.li (X : Type) (n : Nat) : LoopI X:=⟨7,⟨8,0,1⟩,F.zd.L0_strings_Lines_1_2.head,[(0,F.zd.L0_strings_Lines_1_2.e0)],[F.zd.L0_strings_Lines_1_2.er],F.zd.L0_strings_Lines_1_2.f n n⟩
noncomputable def cx10 (X : Type) (n : Nat) : Cx X:=mkCx tab.get [(10,Tryz.f10),(32,Tryz.f32),(33,Tryz.f33),(63,Tryz.f63)] [(15,orcOf [.str,(.int .i64)] (.many [(.agg [.str,(.int .i64),(.sl (.agg [.bool,(.int .u64),(.int .i64)]) .unk),(.int .i64),(.sl (.agg [.str,.str]) .unk),(.int .i64)]),(.agg [(.int .i64),(.int .i64)])]) (fun x => F.zav n x.1 x.2.1)),(34,orcOf [.str,.str] (.many [.str,.bool]) (fun x => F.zak n x.1 x.2.1)),(64,orcOf [.str,(.int .u8)] (.one (.int .i64)) (fun x => F.zau n x.1 x.2.1))] [(63,0,[F.zd.L0_strings_Lines_1.li X n,F.zd.L0_strings_Lines_1_1.li X n,F.zd.L0_strings_Lines_1_2.li X n])] [(10,7,Tryz.f10,[3,4,5,8,9],0)] [(10,17,[(1,7),(2,7),(4,7)])] []
theorem F.zd.L0_strings_Lines_1.ok (X : Type) (n : Nat) : LoopOK (cx10 X n) 63 Tryz.f63.ntmps (loopNo Tryz.f63 0) (F.zd.L0_strings_Lines_1.li X n):=
  ⟨F.zd.L0_strings_Lines_1.f n,n,fun _ _ => rfl,fun _ _ => rfl,fun m ks s => by kernel_rfl⟩
theorem F.zd.L0_strings_Lines_1_1.ok (X : Type) (n : Nat) : LoopOK (cx10 X n) 63 Tryz.f63.ntmps (loopNo Tryz.f63 0) (F.zd.L0_strings_Lines_1_1.li X n):=
  ⟨F.zd.L0_strings_Lines_1_1.f n,n,fun _ _ => rfl,fun _ _ => rfl,fun m ks s => by kernel_rfl⟩
theorem F.zd.L0_strings_Lines_1_2.ok (X : Type) (n : Nat) : LoopOK (cx10 X n) 63 Tryz.f63.ntmps (loopNo Tryz.f63 0) (F.zd.L0_strings_Lines_1_2.li X n):=
  ⟨F.zd.L0_strings_Lines_1_2.f n,n,fun _ _ => rfl,fun _ _ => rfl,fun m ks s => by kernel_rfl⟩
theorem zte (X : Type) (n : Nat) : CxOK Tryz.prog SW (cx10 X n):=zi mixed (tabOK zk) ⟨⟨Tryz.func10,by decide⟩,
  ⟨Tryz.func32,by decide⟩,
  ⟨Tryz.func33,by decide⟩,
  ⟨Tryz.func63,by decide⟩,trivial⟩ ⟨zb (ok15 n),
  zb (ok34 n),
  zb (ok64 n),trivial⟩ ⟨zg (fun _ => rfl) (by kernel_rfl) (castP (by kernel_rfl) (show True from trivial)) (castP (by kernel_rfl) (show (∀ i,some 7 = some i→∃ lv,(cx10 X n).rfs 10 i = some (Tryz.f10.ntmps,lv,rfNo Tryz.f10 0)) ∧ True from ⟨(fun i h => by cases h; exact ⟨[3,4,5,8,9],by kernel_rfl⟩),trivial⟩)),
  zg (fun _ => rfl) (by kernel_rfl) (castP (by kernel_rfl) (show True from trivial)) (castP (by kernel_rfl) (show True from trivial)),
  zg (fun _ => rfl) (by kernel_rfl) (castP (by kernel_rfl) (show True from trivial)) (castP (by kernel_rfl) (show True from trivial)),
  zg (fun _ => rfl) (by kernel_rfl) (castP (by kernel_rfl) (show (LoopOK (cx10 X n) 63 Tryz.f63.ntmps (loopNo Tryz.f63 0) (F.zd.L0_strings_Lines_1.li X n) ∧ LoopOK (cx10 X n) 63 Tryz.f63.ntmps (loopNo Tryz.f63 0) (F.zd.L0_strings_Lines_1_1.li X n) ∧ LoopOK (cx10 X n) 63 Tryz.f63.ntmps (loopNo Tryz.f63 0) (F.zd.L0_strings_Lines_1_2.li X n) ∧ True) ∧ True from ⟨⟨F.zd.L0_strings_Lines_1.ok X n,F.zd.L0_strings_Lines_1_1.ok X n,F.zd.L0_strings_Lines_1_2.ok X n,trivial⟩,trivial⟩)) (castP (by kernel_rfl) (show True from trivial)),trivial⟩ ⟨⟨Tryz.func10,rfl⟩,trivial⟩
theorem ok10 (n : Nat) : FnOK Tryz.prog SW 10 [(.sl .u8 .unk),(.int .i64)] (.many [(.sl (.agg [.str,(.int .i64),(.sl (.agg [.bool,(.int .u64),(.int .i64)])),(.int .i64),(.sl (.agg [.str,.str])),(.int .i64)]) .unk),(.agg [(.int .i64),(.int .i64)])]) (fun x => F.zd n x.1 x.2.1):=zh WOf.st (zte _ n) (d:=8) (fun x => by kernel_rfl)
noncomputable def cx9 (X : Type) (n : Nat) : Cx X:=mkCx tab.get [(9,Tryz.f9)] [(10,orcOf [(.sl .u8 .unk),(.int .i64)] (.many [(.sl (.agg [.str,(.int .i64),(.sl (.agg [.bool,(.int .u64),(.int .i64)])),(.int .i64),(.sl (.agg [.str,.str])),(.int .i64)]) .unk),(.agg [(.int .i64),(.int .i64)])]) (fun x => F.zd n x.1 x.2.1))] [] [] [] [] [] [(22,.u8)]
theorem zuo (X : Type) (n : Nat) : CxOK Tryz.prog SW (cx9 X n):=zi mixed (tabOK zk) ⟨⟨Tryz.func9,by decide⟩,trivial⟩ ⟨zb (ok10 n),trivial⟩ ⟨zg (fun _ => rfl) (by kernel_rfl) (castP (by kernel_rfl) (show True from trivial)) (castP (by kernel_rfl) (show True from trivial)),trivial⟩ trivial
theorem ok9 (n : Nat) : FnOK Tryz.prog SW 9 [] (.one .bool) (fun x => F.za4 n ):=zh WOf.st (zuo _ n) (d:=8) (fun x => by kernel_rfl)
noncomputable def cx18 (X : Type) (n : Nat) : Cx X:=mkCx tab.get [(18,Tryz.f18)] [] [] [] [] []
theorem ztf (X : Type) (n : Nat) : CxOK Tryz.prog SW (cx18 X n):=zi mixed (tabOK zk) ⟨⟨Tryz.func18,by decide⟩,trivial⟩ trivial ⟨zg (fun _ => rfl) (by kernel_rfl) (castP (by kernel_rfl) (show True from trivial)) (castP (by kernel_rfl) (show True from trivial)),trivial⟩ trivial
theorem ok18 (n : Nat) : FnOK Tryz.prog SW 18 [(.int .i64)] (.one .bool) (fun x => F.zbd n x.1):=zh WOf.st (ztf _ n) (d:=8) (fun x => by kernel_rfl)
def F.zp.L2.head : Shape:=⟨[(0,.str),(2,(.int .u8)),(7,(.int .i64))],[],[],[],[],0,0,0⟩
def F.zp.L2.e0 : Shape:=⟨[(0,.str)],[],[],[],[],0,0,0⟩
def F.zp.L2.er : Shape:=⟨[(6,(.int .i64))],[],[],[],[],0,0,0⟩
noncomputable def F.zp.L2.f {X : Type} (n m : Nat) (ks : Ks X) (s : F.zp.L2.head.den) : Option X:=F.zp.L2 n (fun q0 => ks.ex 0 (F.zp.L2.e0.e ((q0,()),(),(),())) (F.zp.L2.e0.h ((q0,()),(),(),()))) (fun q6 => ks.ret (F.zp.L2.er.e ((q6,()),(),(),())) (F.zp.L2.er.h ((q6,()),(),(),()))) m s.1.1 s.1.2.1 s.1.2.2.1
noncomputable def F.zp.L2.li (X : Type) (n : Nat) : LoopI X:=⟨8,⟨0,0,0⟩,F.zp.L2.head,[(0,F.zp.L2.e0)],[F.zp.L2.er],F.zp.L2.f n n⟩
noncomputable def cx69 (X : Type) (n : Nat) : Cx X:=mkCx tab.get [(69,Tryz.f69)] [] [(69,2,[F.zp.L2.li X n])] [] [] []
theorem F.zp.L2.ok (X : Type) (n : Nat) : LoopOK (cx69 X n) 69 Tryz.f69.ntmps (loopNo Tryz.f69 0) (F.zp.L2.li X n):=
  ⟨F.zp.L2.f n,n,fun _ _ => rfl,fun _ _ => rfl,fun m ks s => by kernel_rfl⟩
theorem ztg (X : Type) (n : Nat) : CxOK Tryz.prog SW (cx69 X n):=zi mixed (tabOK zk) ⟨⟨Tryz.func69,by decide⟩,trivial⟩ trivial ⟨zg (fun _ => rfl) (by kernel_rfl) (castP (by kernel_rfl) (show (LoopOK (cx69 X n) 69 Tryz.f69.ntmps (loopNo Tryz.f69 0) (F.zp.L2.li X n) ∧ True) ∧ True from ⟨⟨F.zp.L2.ok X n,trivial⟩,trivial⟩)) (castP (by kernel_rfl) (show True from trivial)),trivial⟩ trivial
theorem ok69 (n : Nat) : FnOK Tryz.prog SW 69 [.str,(.int .i64),(.int .u8)] (.one (.int .i64)) (fun x => F.zp n x.1 x.2.1 x.2.2.1):=zh WOf.st (ztg _ n) (d:=8) (fun x => by kernel_rfl)
noncomputable def cx232 (X : Type) (n : Nat) : Cx X:=mkCx tab.get [(232,Tryz.f232)] [] [] [] [] []
theorem zrd (X : Type) (n : Nat) : CxOK Tryz.prog SW (cx232 X n):=zi mixed (tabOK zk) ⟨⟨Tryz.func232,by decide⟩,trivial⟩ trivial ⟨zg (fun _ => rfl) (by kernel_rfl) (castP (by kernel_rfl) (show True from trivial)) (castP (by kernel_rfl) (show True from trivial)),trivial⟩ trivial
theorem ok232 (n : Nat) : FnOK Tryz.prog SW 232 [(.int .i64)] (.one .str) (fun x => F.za7 n x.1):=zh WOf.st (zrd _ n) (d:=8) (fun x => by kernel_rfl)
def F.zae.L3.head : Shape:=⟨[(1,(.int .u8)),(5,.str),(6,(.int .i64))],[],[],[],[],0,0,0⟩
def F.zae.L3.e0 : Shape:=⟨[],[],[],[],[],0,0,0⟩
def F.zae.L3.er : Shape:=⟨[(4,.bool)],[],[],[],[],0,0,0⟩
noncomputable def F.zae.L3.f {X : Type} (n m : Nat) (ks : Ks X) (s : F.zae.L3.head.den) : Option X:=F.zae.L3 n (fun (_ : Unit) => ks.ex 0 (F.zae.L3.e0.e ((),(),(),())) (F.zae.L3.e0.h ((),(),(),()))) (fun q4 => ks.ret (F.zae.L3.er.e ((q4,()),(),(),())) (F.zae.L3.er.h ((q4,()),(),(),()))) m s.1.1 s.1.2.1 s.1.2.2.1
noncomputable def F.zae.L3.li (X : Type) (n : Nat) : LoopI X:=⟨8,⟨0,0,0⟩,F.zae.L3.head,[(0,F.zae.L3.e0)],[F.zae.L3.er],F.zae.L3.f n n⟩
noncomputable def cx195 (X : Type) (n : Nat) : Cx X:=mkCx tab.get [(195,Tryz.f195)] [(232,orcOf [(.int .i64)] (.one .str) (fun x => F.za7 n x.1))] [(195,3,[F.zae.L3.li X n])] [] [] []
theorem F.zae.L3.ok (X : Type) (n : Nat) : LoopOK (cx195 X n) 195 Tryz.f195.ntmps (loopNo Tryz.f195 0) (F.zae.L3.li X n):=
  ⟨F.zae.L3.f n,n,fun _ _ => rfl,fun _ _ => rfl,fun m ks s => by kernel_rfl⟩
theorem zre (X : Type) (n : Nat) : CxOK Tryz.prog SW (cx195 X n):=zi mixed (tabOK zk) ⟨⟨Tryz.func195,by decide⟩,trivial⟩ ⟨zb (ok232 n),trivial⟩ ⟨zg (fun _ => rfl) (by kernel_rfl) (castP (by kernel_rfl) (show (LoopOK (cx195 X n) 195 Tryz.f195.ntmps (loopNo Tryz.f195 0) (F.zae.L3.li X n) ∧ True) ∧ True from ⟨⟨F.zae.L3.ok X n,trivial⟩,trivial⟩)) (castP (by kernel_rfl) (show True from trivial)),trivial⟩ trivial
theorem ok195 (n : Nat) : FnOK Tryz.prog SW 195 [(.int .i64),(.int .u8)] (.one .bool) (fun x => F.zae n x.1 x.2.1):=zh WOf.st (zre _ n) (d:=8) (fun x => by kernel_rfl)
def F.zy.L2.head : Shape:=⟨[(0,(.int .i64)),(1,.str),(5,(.int .i64))],[],[],[],[],0,0,0⟩
def F.zy.L2.e0 : Shape:=⟨[],[],[],[],[],0,0,0⟩
def F.zy.L2.er : Shape:=⟨[(4,(.int .i64))],[],[],[],[],0,0,0⟩
noncomputable def F.zy.L2.f {X : Type} (n m : Nat) (ks : Ks X) (s : F.zy.L2.head.den) : Option X:=F.zy.L2 n (fun (_ : Unit) => ks.ex 0 (F.zy.L2.e0.e ((),(),(),())) (F.zy.L2.e0.h ((),(),(),()))) (fun q4 => ks.ret (F.zy.L2.er.e ((q4,()),(),(),())) (F.zy.L2.er.h ((q4,()),(),(),()))) m s.1.1 s.1.2.1 s.1.2.2.1
noncomputable def F.zy.L2.li (X : Type) (n : Nat) : LoopI X:=⟨8,⟨0,0,0⟩,F.zy.L2.head,[(0,F.zy.L2.e0)],[F.zy.L2.er],F.zy.L2.f n n⟩
noncomputable def cx143 (X : Type) (n : Nat) : Cx X:=mkCx tab.get [(143,Tryz.f143)] [(195,orcOf [(.int .i64),(.int .u8)] (.one .bool) (fun x => F.zae n x.1 x.2.1))] [(143,2,[F.zy.L2.li X n])] [] [] []
theorem F.zy.L2.ok (X : Type) (n : Nat) : LoopOK (cx143 X n) 143 Tryz.f143.ntmps (loopNo Tryz.f143 0) (F.zy.L2.li X n):=
  ⟨F.zy.L2.f n,n,fun _ _ => rfl,fun _ _ => rfl,fun m ks s => by kernel_rfl⟩
theorem zrf (X : Type) (n : Nat) : CxOK Tryz.prog SW (cx143 X n):=zi mixed (tabOK zk) ⟨⟨Tryz.func143,by decide⟩,trivial⟩ ⟨zb (ok195 n),trivial⟩ ⟨zg (fun _ => rfl) (by kernel_rfl) (castP (by kernel_rfl) (show (LoopOK (cx143 X n) 143 Tryz.f143.ntmps (loopNo Tryz.f143 0) (F.zy.L2.li X n) ∧ True) ∧ True from ⟨⟨F.zy.L2.ok X n,trivial⟩,trivial⟩)) (castP (by kernel_rfl) (show True from trivial)),trivial⟩ trivial
theorem ok143 (n : Nat) : FnOK Tryz.prog SW 143 [(.int .i64),.str] (.one (.int .i64)) (fun x => F.zy n x.1 x.2.1):=zh WOf.st (zrf _ n) (d:=8) (fun x => by kernel_rfl)
noncomputable def cx141 (X : Type) (n : Nat) : Cx X:=mkCx tab.get [(141,Tryz.f141)] [(143,orcOf [(.int .i64),.str] (.one (.int .i64)) (fun x => F.zy n x.1 x.2.1))] [] [] [] []
theorem zrg (X : Type) (n : Nat) : CxOK Tryz.prog SW (cx141 X n):=zi mixed (tabOK zk) ⟨⟨Tryz.func141,by decide⟩,trivial⟩ ⟨zb (ok143 n),trivial⟩ ⟨zg (fun _ => rfl) (by kernel_rfl) (castP (by kernel_rfl) (show True from trivial)) (castP (by kernel_rfl) (show True from trivial)),trivial⟩ trivial
theorem ok141 (n : Nat) : FnOK Tryz.prog SW 141 [(.int .i64),.str,(.int .i64),(.int .i64)] (.one (.agg [(.int .i64),(.int .i64)])) (fun x => F.za0 n x.1 x.2.1 x.2.2.1 x.2.2.2.1):=zh WOf.st (zrg _ n) (d:=8) (fun x => by kernel_rfl)
noncomputable def cx70 (X : Type) (n : Nat) : Cx X:=mkCx tab.get [(70,Tryz.f70)] [(141,orcOf [(.int .i64),.str,(.int .i64),(.int .i64)] (.one (.agg [(.int .i64),(.int .i64)])) (fun x => F.za0 n x.1 x.2.1 x.2.2.1 x.2.2.2.1))] [] [] [] []
theorem zth (X : Type) (n : Nat) : CxOK Tryz.prog SW (cx70 X n):=zi mixed (tabOK zk) ⟨⟨Tryz.func70,by decide⟩,trivial⟩ ⟨zb (ok141 n),trivial⟩ ⟨zg (fun _ => rfl) (by kernel_rfl) (castP (by kernel_rfl) (show True from trivial)) (castP (by kernel_rfl) (show True from trivial)),trivial⟩ trivial
theorem ok70 (n : Nat) : FnOK Tryz.prog SW 70 [.str] (.one .bool) (fun x => F.za2 n x.1):=zh WOf.st (zth _ n) (d:=8) (fun x => by kernel_rfl)
noncomputable def cx71 (X : Type) (n : Nat) : Cx X:=mkCx tab.get [(71,Tryz.f71)] [] [] [] [] []
theorem zti (X : Type) (n : Nat) : CxOK Tryz.prog SW (cx71 X n):=zi mixed (tabOK zk) ⟨⟨Tryz.func71,by decide⟩,trivial⟩ trivial ⟨zg (fun _ => rfl) (by kernel_rfl) (castP (by kernel_rfl) (show True from trivial)) (castP (by kernel_rfl) (show True from trivial)),trivial⟩ trivial
theorem ok71 (n : Nat) : FnOK Tryz.prog SW 71 [(.int .i64),(.int .i64)] (.many [(.agg [.str,(.int .i64),(.sl (.agg [.bool,(.int .u64),(.int .i64)]) .unk),(.int .i64),(.sl (.agg [.str,.str]) .unk),(.int .i64)]),(.agg [(.int .i64),(.int .i64)])]) (fun x => F.zaq n x.1 x.2.1):=zh WOf.st (zti _ n) (d:=8) (fun x => by kernel_rfl)
noncomputable def cx147 (X : Type) (n : Nat) : Cx X:=mkCx tab.get [(147,Tryz.f147)] [] [] [] [] []
theorem zrh (X : Type) (n : Nat) : CxOK Tryz.prog SW (cx147 X n):=zi mixed (tabOK zk) ⟨⟨Tryz.func147,by decide⟩,trivial⟩ trivial ⟨zg (fun _ => rfl) (by kernel_rfl) (castP (by kernel_rfl) (show True from trivial)) (castP (by kernel_rfl) (show True from trivial)),trivial⟩ trivial
theorem ok147 (n : Nat) : FnOK Tryz.prog SW 147 [.str] (.one .bool) (fun x => F.za3 n x.1):=zh WOf.st (zrh _ n) (d:=8) (fun x => by kernel_rfl)
def F.zx.L3.head : Shape:=⟨[(0,.str),(3,(.int .u64)),(4,(.int .i64))],[],[],[],[],0,0,0⟩
def F.zx.L3.e0 : Shape:=⟨[(3,(.int .u64))],[],[],[],[],0,0,0⟩
noncomputable def F.zx.L3.f {X : Type} (n m : Nat) (ks : Ks X) (s : F.zx.L3.head.den) : Option X:=F.zx.L3 n (fun q3 => ks.ex 0 (F.zx.L3.e0.e ((q3,()),(),(),())) (F.zx.L3.e0.h ((q3,()),(),(),()))) m s.1.1 s.1.2.1 s.1.2.2.1
noncomputable def F.zx.L3.li (X : Type) (n : Nat) : LoopI X:=⟨8,⟨0,0,0⟩,F.zx.L3.head,[(0,F.zx.L3.e0)],[],F.zx.L3.f n n⟩
noncomputable def cx148 (X : Type) (n : Nat) : Cx X:=mkCx tab.get [(148,Tryz.f148)] [] [(148,3,[F.zx.L3.li X n])] [] [] []
theorem F.zx.L3.ok (X : Type) (n : Nat) : LoopOK (cx148 X n) 148 Tryz.f148.ntmps (loopNo Tryz.f148 0) (F.zx.L3.li X n):=
  ⟨F.zx.L3.f n,n,fun _ _ => rfl,fun _ _ => rfl,fun m ks s => by kernel_rfl⟩
theorem zri (X : Type) (n : Nat) : CxOK Tryz.prog SW (cx148 X n):=zi mixed (tabOK zk) ⟨⟨Tryz.func148,by decide⟩,trivial⟩ trivial ⟨zg (fun _ => rfl) (by kernel_rfl) (castP (by kernel_rfl) (show (LoopOK (cx148 X n) 148 Tryz.f148.ntmps (loopNo Tryz.f148 0) (F.zx.L3.li X n) ∧ True) ∧ True from ⟨⟨F.zx.L3.ok X n,trivial⟩,trivial⟩)) (castP (by kernel_rfl) (show True from trivial)),trivial⟩ trivial
theorem ok148 (n : Nat) : FnOK Tryz.prog SW 148 [.str] (.one (.int .u64)) (fun x => F.zx n x.1):=zh WOf.st (zri _ n) (d:=8) (fun x => by kernel_rfl)
def F.zf.L1.head : Shape:=⟨[(0,.bool),(1,.str),(2,(.int .i64)),(6,(.const (.ref 0 0)))],[[.bool,(.int .u64),(.int .i64)]],[],[],[],1,0,0⟩
def F.zf.L1.e0 : Shape:=⟨[(0,.bool),(1,.str),(2,(.int .i64)),(6,(.const (.ref 0 0)))],[[.bool,(.int .u64),(.int .i64)]],[],[],[],1,0,0⟩
noncomputable def F.zf.L1.f {X : Type} (n m : Nat) (ks : Ks X) (s : F.zf.L1.head.den) : Option X:=F.zf.L1 n (fun q0 q1 q2 qb0_0 qb0_1 qb0_2 => ks.ex 0 (F.zf.L1.e0.e ((q0,q1,q2,(),()),((qb0_0,qb0_1,qb0_2,()),()),(),())) (F.zf.L1.e0.h ((q0,q1,q2,(),()),((qb0_0,qb0_1,qb0_2,()),()),(),()))) m s.1.1 s.1.2.1 s.1.2.2.1 s.2.1.1.1 s.2.1.1.2.1 s.2.1.1.2.2.1
noncomputable def F.zf.L1.li (X : Type) (n : Nat) : LoopI X:=⟨8,⟨0,0,0⟩,F.zf.L1.head,[(0,F.zf.L1.e0)],[],F.zf.L1.f n n⟩
def F.zf.L7.head : Shape:=⟨[(0,.bool),(1,.str),(2,(.int .i64)),(6,(.const (.ref 0 0)))],[[.bool,(.int .u64),(.int .i64)]],[],[],[],1,0,0⟩
def F.zf.L7.e2 : Shape:=⟨[(0,.bool),(1,.str),(2,(.int .i64)),(6,(.const (.ref 0 0)))],[[.bool,(.int .u64),(.int .i64)]],[],[],[],1,0,0⟩
noncomputable def F.zf.L7.f {X : Type} (n m : Nat) (ks : Ks X) (s : F.zf.L7.head.den) : Option X:=F.zf.L7 n (fun q0 q1 q2 qb0_0 qb0_1 qb0_2 => ks.ex 2 (F.zf.L7.e2.e ((q0,q1,q2,(),()),((qb0_0,qb0_1,qb0_2,()),()),(),())) (F.zf.L7.e2.h ((q0,q1,q2,(),()),((qb0_0,qb0_1,qb0_2,()),()),(),()))) m s.1.1 s.1.2.1 s.1.2.2.1 s.2.1.1.1 s.2.1.1.2.1 s.2.1.1.2.2.1
noncomputable def F.zf.L7.li (X : Type) (n : Nat) : LoopI X:=⟨8,⟨0,0,0⟩,F.zf.L7.head,[(2,F.zf.L7.e2)],[],F.zf.L7.f n n⟩
def F.zf.L10.head : Shape:=⟨[(0,.bool),(1,.str),(2,(.int .i64)),(6,(.const (.ref 0 0)))],[[.bool,(.int .u64),(.int .i64)]],[],[],[],1,0,0⟩
def F.zf.L10.e4 : Shape:=⟨[(0,.bool),(1,.str),(2,(.int .i64)),(6,(.const (.ref 0 0)))],[[.bool,(.int .u64),(.int .i64)]],[],[],[],1,0,0⟩
noncomputable def F.zf.L10.f {X : Type} (n m : Nat) (ks : Ks X) (s : F.zf.L10.head.den) : Option X:=F.zf.L10 n (fun q0 q1 q2 qb0_0 qb0_1 qb0_2 => ks.ex 4 (F.zf.L10.e4.e ((q0,q1,q2,(),()),((qb0_0,qb0_1,qb0_2,()),()),(),())) (F.zf.L10.e4.h ((q0,q1,q2,(),()),((qb0_0,qb0_1,qb0_2,()),()),(),()))) m s.1.1 s.1.2.1 s.1.2.2.1 s.2.1.1.1 s.2.1.1.2.1 s.2.1.1.2.2.1
noncomputable def F.zf.L10.li (X : Type) (n : Nat) : LoopI X:=⟨8,⟨0,0,0⟩,F.zf.L10.head,[(4,F.zf.L10.e4)],[],F.zf.L10.f n n⟩
noncomputable def cx81 (X : Type) (n : Nat) : Cx X:=mkCx tab.get [(81,Tryz.f81)] [(147,orcOf [.str] (.one .bool) (fun x => F.za3 n x.1)),(148,orcOf [.str] (.one (.int .u64)) (fun x => F.zx n x.1))] [(81,1,[F.zf.L1.li X n]),(81,7,[F.zf.L7.li X n]),(81,10,[F.zf.L10.li X n])] [] [] []
theorem F.zf.L1.ok (X : Type) (n : Nat) : LoopOK (cx81 X n) 81 Tryz.f81.ntmps (loopNo Tryz.f81 0) (F.zf.L1.li X n):=
  ⟨F.zf.L1.f n,n,fun _ _ => rfl,fun _ _ => rfl,fun m ks s => by kernel_rfl⟩
theorem F.zf.L7.ok (X : Type) (n : Nat) : LoopOK (cx81 X n) 81 Tryz.f81.ntmps (loopNo Tryz.f81 1) (F.zf.L7.li X n):=
  ⟨F.zf.L7.f n,n,fun _ _ => rfl,fun _ _ => rfl,fun m ks s => by kernel_rfl⟩
theorem F.zf.L10.ok (X : Type) (n : Nat) : LoopOK (cx81 X n) 81 Tryz.f81.ntmps (loopNo Tryz.f81 2) (F.zf.L10.li X n):=
  ⟨F.zf.L10.f n,n,fun _ _ => rfl,fun _ _ => rfl,fun m ks s => by kernel_rfl⟩
theorem ztj (X : Type) (n : Nat) : CxOK Tryz.prog SW (cx81 X n):=zi mixed (tabOK zk) ⟨⟨Tryz.func81,by decide⟩,trivial⟩ ⟨zb (ok147 n),
  zb (ok148 n),trivial⟩ ⟨zg (fun _ => rfl) (by kernel_rfl) (castP (by kernel_rfl) (show (LoopOK (cx81 X n) 81 Tryz.f81.ntmps (loopNo Tryz.f81 0) (F.zf.L1.li X n) ∧ True) ∧ (LoopOK (cx81 X n) 81 Tryz.f81.ntmps (loopNo Tryz.f81 1) (F.zf.L7.li X n) ∧ True) ∧ (LoopOK (cx81 X n) 81 Tryz.f81.ntmps (loopNo Tryz.f81 2) (F.zf.L10.li X n) ∧ True) ∧ True from ⟨⟨F.zf.L1.ok X n,trivial⟩,⟨F.zf.L7.ok X n,trivial⟩,⟨F.zf.L10.ok X n,trivial⟩,trivial⟩)) (castP (by kernel_rfl) (show True from trivial)),trivial⟩ trivial
theorem ok81 (n : Nat) : FnOK Tryz.prog SW 81 [.bool,.str,(.int .i64)] (.many [(.agg [.bool,(.int .u64),(.int .i64)]),.bool]) (fun x => F.zf n x.1 x.2.1 x.2.2.1):=zh WOf.st (ztj _ n) (d:=8) (fun x => by kernel_rfl)
noncomputable def cx142 (X : Type) (n : Nat) : Cx X:=mkCx tab.get [(142,Tryz.f142)] [] [] [] [] []
theorem zrj (X : Type) (n : Nat) : CxOK Tryz.prog SW (cx142 X n):=zi mixed (tabOK zk) ⟨⟨Tryz.func142,by decide⟩,trivial⟩ trivial ⟨zg (fun _ => rfl) (by kernel_rfl) (castP (by kernel_rfl) (show True from trivial)) (castP (by kernel_rfl) (show True from trivial)),trivial⟩ trivial
theorem ok142 (n : Nat) : FnOK Tryz.prog SW 142 [(.int .u8)] (.one .bool) (fun x => F.za8 n x.1):=zh WOf.st (zrj _ n) (d:=8) (fun x => by kernel_rfl)
def F.zn.L8.head : Shape:=⟨[(0,.str),(2,(.const (.ref 0 0))),(3,(.const (.ref 1 0))),(4,.bool),(5,(.int .i64)),(6,.str),(7,(.int .i64)),(8,.bool)],[[.bool,(.int .u64),(.int .i64)],[(.int .i64),(.int .i64)]],[],[],[],2,0,0⟩
def F.zn.L8.e0 : Shape:=⟨[(0,.str),(2,(.const (.ref 0 0))),(3,(.const (.ref 1 0))),(4,.bool),(6,.str),(7,(.int .i64)),(8,.bool)],[[.bool,(.int .u64),(.int .i64)],[(.int .i64),(.int .i64)]],[],[],[],2,0,0⟩
def F.zn.L8.er : Shape:=⟨[(2,(.const (.ref 0 0))),(3,(.const (.ref 1 0)))],[[.bool,(.int .u64),(.int .i64)],[(.int .i64),(.int .i64)]],[],[],[],2,0,0⟩
noncomputable def F.zn.L8.f {X : Type} (n m : Nat) (ks : Ks X) (s : F.zn.L8.head.den) : Option X:=F.zn.L8 n (fun q0 q4 q6 q7 q8 qb0_0 qb0_1 qb0_2 qb1_0 qb1_1 => ks.ex 0 (F.zn.L8.e0.e ((q0,(),(),q4,q6,q7,q8,()),((qb0_0,qb0_1,qb0_2,()),(qb1_0,qb1_1,()),()),(),())) (F.zn.L8.e0.h ((q0,(),(),q4,q6,q7,q8,()),((qb0_0,qb0_1,qb0_2,()),(qb1_0,qb1_1,()),()),(),()))) (fun qb0_0 qb0_1 qb0_2 qb1_0 qb1_1 => ks.ret (F.zn.L8.er.e (((),(),()),((qb0_0,qb0_1,qb0_2,()),(qb1_0,qb1_1,()),()),(),())) (F.zn.L8.er.h (((),(),()),((qb0_0,qb0_1,qb0_2,()),(qb1_0,qb1_1,()),()),(),()))) m s.1.1 s.1.2.2.2.1 s.1.2.2.2.2.1 s.1.2.2.2.2.2.1 s.1.2.2.2.2.2.2.1 s.1.2.2.2.2.2.2.2.1 s.2.1.1.1 s.2.1.1.2.1 s.2.1.1.2.2.1 s.2.1.2.1.1 s.2.1.2.1.2.1
noncomputable def F.zn.L8.li (X : Type) (n : Nat) : LoopI X:=⟨8,⟨0,0,0⟩,F.zn.L8.head,[(0,F.zn.L8.e0)],[F.zn.L8.er],F.zn.L8.f n n⟩
noncomputable def cx72 (X : Type) (n : Nat) : Cx X:=mkCx tab.get [(72,Tryz.f72)] [(81,orcOf [.bool,.str,(.int .i64)] (.many [(.agg [.bool,(.int .u64),(.int .i64)]),.bool]) (fun x => F.zf n x.1 x.2.1 x.2.2.1)),(142,orcOf [(.int .u8)] (.one .bool) (fun x => F.za8 n x.1))] [(72,8,[F.zn.L8.li X n])] [] [] []
theorem F.zn.L8.ok (X : Type) (n : Nat) : LoopOK (cx72 X n) 72 Tryz.f72.ntmps (loopNo Tryz.f72 0) (F.zn.L8.li X n):=
  ⟨F.zn.L8.f n,n,fun _ _ => rfl,fun _ _ => rfl,fun m ks s => by kernel_rfl⟩
theorem ztk (X : Type) (n : Nat) : CxOK Tryz.prog SW (cx72 X n):=zi mixed (tabOK zk) ⟨⟨Tryz.func72,by decide⟩,trivial⟩ ⟨zb (ok81 n),
  zb (ok142 n),trivial⟩ ⟨zg (fun _ => rfl) (by kernel_rfl) (castP (by kernel_rfl) (show (LoopOK (cx72 X n) 72 Tryz.f72.ntmps (loopNo Tryz.f72 0) (F.zn.L8.li X n) ∧ True) ∧ True from ⟨⟨F.zn.L8.ok X n,trivial⟩,trivial⟩)) (castP (by kernel_rfl) (show True from trivial)),trivial⟩ trivial
theorem ok72 (n : Nat) : FnOK Tryz.prog SW 72 [.str] (.many [(.agg [.bool,(.int .u64),(.int .i64)]),(.agg [(.int .i64),(.int .i64)])]) (fun x => F.zn n x.1):=zh WOf.st (ztk _ n) (d:=8) (fun x => by kernel_rfl)
noncomputable def cx88 (X : Type) (n : Nat) : Cx X:=mkCx tab.get [(88,Tryz.f88)] [] [] [] [] []
theorem ztl (X : Type) (n : Nat) : CxOK Tryz.prog SW (cx88 X n):=zi mixed (tabOK zk) ⟨⟨Tryz.func88,by decide⟩,trivial⟩ trivial ⟨zg (fun _ => rfl) (by kernel_rfl) (castP (by kernel_rfl) (show True from trivial)) (castP (by kernel_rfl) (show True from trivial)),trivial⟩ trivial
theorem ok88 (n : Nat) : FnOK Tryz.prog SW 88 [(.int .i64)] (.one .str) (fun x => F.zbe n x.1):=zh WOf.st (ztl _ n) (d:=8) (fun x => by kernel_rfl)
def F.zw.L2.head : Shape:=⟨[(0,.str),(3,(.int .i64))],[],[],[],[],0,0,0⟩
def F.zw.L2.e0 : Shape:=⟨[],[],[],[],[],0,0,0⟩
def F.zw.L2.er : Shape:=⟨[(2,(.int .i64))],[],[],[],[],0,0,0⟩
noncomputable def F.zw.L2.f {X : Type} (n m : Nat) (ks : Ks X) (s : F.zw.L2.head.den) : Option X:=F.zw.L2 n (fun (_ : Unit) => ks.ex 0 (F.zw.L2.e0.e ((),(),(),())) (F.zw.L2.e0.h ((),(),(),()))) (fun q2 => ks.ret (F.zw.L2.er.e ((q2,()),(),(),())) (F.zw.L2.er.h ((q2,()),(),(),()))) m s.1.1 s.1.2.1
noncomputable def F.zw.L2.li (X : Type) (n : Nat) : LoopI X:=⟨8,⟨0,0,0⟩,F.zw.L2.head,[(0,F.zw.L2.e0)],[F.zw.L2.er],F.zw.L2.f n n⟩
noncomputable def cx73 (X : Type) (n : Nat) : Cx X:=mkCx tab.get [(73,Tryz.f73)] [(88,orcOf [(.int .i64)] (.one .str) (fun x => F.zbe n x.1))] [(73,2,[F.zw.L2.li X n])] [] [] []
theorem F.zw.L2.ok (X : Type) (n : Nat) : LoopOK (cx73 X n) 73 Tryz.f73.ntmps (loopNo Tryz.f73 0) (F.zw.L2.li X n):=
  ⟨F.zw.L2.f n,n,fun _ _ => rfl,fun _ _ => rfl,fun m ks s => by kernel_rfl⟩
theorem ztm (X : Type) (n : Nat) : CxOK Tryz.prog SW (cx73 X n):=zi mixed (tabOK zk) ⟨⟨Tryz.func73,by decide⟩,trivial⟩ ⟨zb (ok88 n),trivial⟩ ⟨zg (fun _ => rfl) (by kernel_rfl) (castP (by kernel_rfl) (show (LoopOK (cx73 X n) 73 Tryz.f73.ntmps (loopNo Tryz.f73 0) (F.zw.L2.li X n) ∧ True) ∧ True from ⟨⟨F.zw.L2.ok X n,trivial⟩,trivial⟩)) (castP (by kernel_rfl) (show True from trivial)),trivial⟩ trivial
theorem ok73 (n : Nat) : FnOK Tryz.prog SW 73 [.str] (.one (.int .i64)) (fun x => F.zw n x.1):=zh WOf.st (ztm _ n) (d:=8) (fun x => by kernel_rfl)
def F.zq.L3.head : Shape:=⟨[(0,.str),(4,(.int .i64)),(5,(.int .i64))],[],[],[],[],0,0,0⟩
def F.zq.L3.e0 : Shape:=⟨[(4,(.int .i64))],[],[],[],[],0,0,0⟩
def F.zq.L3.er : Shape:=⟨[(2,(.int .i64)),(3,.bool)],[],[],[],[],0,0,0⟩
noncomputable def F.zq.L3.f {X : Type} (n m : Nat) (ks : Ks X) (s : F.zq.L3.head.den) : Option X:=F.zq.L3 n (fun q4 => ks.ex 0 (F.zq.L3.e0.e ((q4,()),(),(),())) (F.zq.L3.e0.h ((q4,()),(),(),()))) (fun q2 q3 => ks.ret (F.zq.L3.er.e ((q2,q3,()),(),(),())) (F.zq.L3.er.h ((q2,q3,()),(),(),()))) m s.1.1 s.1.2.1 s.1.2.2.1
noncomputable def F.zq.L3.li (X : Type) (n : Nat) : LoopI X:=⟨8,⟨0,0,0⟩,F.zq.L3.head,[(0,F.zq.L3.e0)],[F.zq.L3.er],F.zq.L3.f n n⟩
noncomputable def cx144 (X : Type) (n : Nat) : Cx X:=mkCx tab.get [(144,Tryz.f144)] [] [(144,3,[F.zq.L3.li X n])] [] [] []
theorem F.zq.L3.ok (X : Type) (n : Nat) : LoopOK (cx144 X n) 144 Tryz.f144.ntmps (loopNo Tryz.f144 0) (F.zq.L3.li X n):=
  ⟨F.zq.L3.f n,n,fun _ _ => rfl,fun _ _ => rfl,fun m ks s => by kernel_rfl⟩
theorem zrk (X : Type) (n : Nat) : CxOK Tryz.prog SW (cx144 X n):=zi mixed (tabOK zk) ⟨⟨Tryz.func144,by decide⟩,trivial⟩ trivial ⟨zg (fun _ => rfl) (by kernel_rfl) (castP (by kernel_rfl) (show (LoopOK (cx144 X n) 144 Tryz.f144.ntmps (loopNo Tryz.f144 0) (F.zq.L3.li X n) ∧ True) ∧ True from ⟨⟨F.zq.L3.ok X n,trivial⟩,trivial⟩)) (castP (by kernel_rfl) (show True from trivial)),trivial⟩ trivial
theorem ok144 (n : Nat) : FnOK Tryz.prog SW 144 [.str] (.many [(.int .i64),.bool]) (fun x => F.zq n x.1):=zh WOf.st (zrk _ n) (d:=8) (fun x => by kernel_rfl)
def F.z6.L17.head : Shape:=⟨[(3,(.const (.ref 0 0))),(4,.str)],[[(.int .i64),(.int .i64)]],[],[],[],1,0,0⟩
def F.z6.L17.e0 : Shape:=⟨[(3,(.const (.ref 0 0))),(4,.str)],[[(.int .i64),(.int .i64)]],[],[],[],1,0,0⟩
noncomputable def F.z6.L17.f {X : Type} (n m : Nat) (ks : Ks X) (s : F.z6.L17.head.den) : Option X:=F.z6.L17 n (fun q4 qb0_0 qb0_1 => ks.ex 0 (F.z6.L17.e0.e (((),q4,()),((qb0_0,qb0_1,()),()),(),())) (F.z6.L17.e0.h (((),q4,()),((qb0_0,qb0_1,()),()),(),()))) m s.1.2.1 s.2.1.1.1 s.2.1.1.2.1
noncomputable def F.z6.L17.li (X : Type) (n : Nat) : LoopI X:=⟨8,⟨0,0,0⟩,F.z6.L17.head,[(0,F.z6.L17.e0)],[],F.z6.L17.f n n⟩
noncomputable def cx74 (X : Type) (n : Nat) : Cx X:=mkCx tab.get [(74,Tryz.f74)] [(143,orcOf [(.int .i64),.str] (.one (.int .i64)) (fun x => F.zy n x.1 x.2.1)),(144,orcOf [.str] (.many [(.int .i64),.bool]) (fun x => F.zq n x.1))] [(74,17,[F.z6.L17.li X n])] [] [] []
theorem F.z6.L17.ok (X : Type) (n : Nat) : LoopOK (cx74 X n) 74 Tryz.f74.ntmps (loopNo Tryz.f74 0) (F.z6.L17.li X n):=
  ⟨F.z6.L17.f n,n,fun _ _ => rfl,fun _ _ => rfl,fun m ks s => by kernel_rfl⟩
theorem ztn (X : Type) (n : Nat) : CxOK Tryz.prog SW (cx74 X n):=zi mixed (tabOK zk) ⟨⟨Tryz.func74,by decide⟩,trivial⟩ ⟨zb (ok143 n),
  zb (ok144 n),trivial⟩ ⟨zg (fun _ => rfl) (by kernel_rfl) (castP (by kernel_rfl) (show (LoopOK (cx74 X n) 74 Tryz.f74.ntmps (loopNo Tryz.f74 0) (F.z6.L17.li X n) ∧ True) ∧ True from ⟨⟨F.z6.L17.ok X n,trivial⟩,trivial⟩)) (castP (by kernel_rfl) (show True from trivial)),trivial⟩ trivial
theorem ok74 (n : Nat) : FnOK Tryz.prog SW 74 [.str] (.many [(.int .i64),(.agg [(.int .i64),(.int .i64)])]) (fun x => F.z6 n x.1):=zh WOf.st (ztn _ n) (d:=8) (fun x => by kernel_rfl)
def F.zg.C26.head : Shape:=⟨[(0,.str),(2,(.const (.ref 0 0))),(3,(.const (.ref 1 0))),(8,(.int .i64)),(10,(.const (.ref 3 0))),(11,(.int .i64)),(12,(.int .i64)),(145,.bool)],[[.str,(.int .i64),(.sl (.agg [.bool,(.int .u64),(.int .i64)]) (.own 0)),(.int .i64),(.sl (.agg [.str,.str]) (.own 1)),(.int .i64)],[(.int .i64),(.int .i64)],[.bool,(.int .u64),(.int .i64)],[.str,(.int .i64),(.sl (.agg [.bool,(.int .u64),(.int .i64)]) (.own 2)),(.int .i64),(.sl (.agg [.str,.str]) (.own 3)),(.int .i64)]],[true,true,true,true],[],[],4,0,0⟩
def F.zg.C26.er : Shape:=⟨[(2,(.const (.ref 0 0))),(3,(.const (.ref 1 0)))],[[.str,(.int .i64),(.sl (.agg [.bool,(.int .u64),(.int .i64)]) .unk),(.int .i64),(.sl (.agg [.str,.str]) .unk),(.int .i64)],[(.int .i64),(.int .i64)]],[],[],[],2,0,0⟩
def F.zg.C26.en : Shape:=⟨[(0,.str),(2,(.const (.ref 0 0))),(3,(.const (.ref 1 0))),(10,(.const (.ref 3 0))),(11,(.int .i64)),(12,(.int .i64))],[[.str,(.int .i64),(.sl (.agg [.bool,(.int .u64),(.int .i64)]) (.own 0)),(.int .i64),(.sl (.agg [.str,.str]) (.own 1)),(.int .i64)],[(.int .i64),(.int .i64)],[.bool,(.int .u64),(.int .i64)],[.str,(.int .i64),(.sl (.agg [.bool,(.int .u64),(.int .i64)]) (.own 2)),(.int .i64),(.sl (.agg [.str,.str]) (.own 3)),(.int .i64)]],[true,true,true,true],[],[],4,0,0⟩
noncomputable def F.zg.C26.f {X : Type} (n : Nat) (ks : Ks X) (s : F.zg.C26.head.den) : Option X:=F.zg.C26 n (fun qb0_0 qb0_1 qb0_2 qb0_3 qb0_4 qb0_5 qb1_0 qb1_1 => ks.ret (F.zg.C26.er.e (((),(),()),((qb0_0,qb0_1,qb0_2,qb0_3,qb0_4,qb0_5,()),(qb1_0,qb1_1,()),()),(),())) (F.zg.C26.er.h (((),(),()),((qb0_0,qb0_1,qb0_2,qb0_3,qb0_4,qb0_5,()),(qb1_0,qb1_1,()),()),(),()))) (fun q0 q11 q12 qb0_0 qb0_1 qb0_2 qb0_3 qb0_4 qb0_5 qb1_0 qb1_1 qb2_0 qb2_1 qb2_2 qb3_0 qb3_1 qb3_2 qb3_3 qb3_4 qb3_5 qk0 qk1 qk2 qk3 => ks.nxt (F.zg.C26.en.e ((q0,(),(),(),q11,q12,()),((qb0_0,qb0_1,qb0_2,qb0_3,qb0_4,qb0_5,()),(qb1_0,qb1_1,()),(qb2_0,qb2_1,qb2_2,()),(qb3_0,qb3_1,qb3_2,qb3_3,qb3_4,qb3_5,()),()),(qk0,qk1,qk2,qk3,()),())) (F.zg.C26.en.h ((q0,(),(),(),q11,q12,()),((qb0_0,qb0_1,qb0_2,qb0_3,qb0_4,qb0_5,()),(qb1_0,qb1_1,()),(qb2_0,qb2_1,qb2_2,()),(qb3_0,qb3_1,qb3_2,qb3_3,qb3_4,qb3_5,()),()),(qk0,qk1,qk2,qk3,()),()))) s.1.1 s.1.2.2.2.1 s.1.2.2.2.2.2.1 s.1.2.2.2.2.2.2.1 s.1.2.2.2.2.2.2.2.1 s.2.1.1.1 s.2.1.1.2.1 s.2.1.1.2.2.1 s.2.1.1.2.2.2.1 s.2.1.1.2.2.2.2.1 s.2.1.1.2.2.2.2.2.1 s.2.1.2.1.1 s.2.1.2.1.2.1 s.2.1.2.2.1.1 s.2.1.2.2.1.2.1 s.2.1.2.2.1.2.2.1 s.2.1.2.2.2.1.1 s.2.1.2.2.2.1.2.1 s.2.1.2.2.2.1.2.2.1 s.2.1.2.2.2.1.2.2.2.1 s.2.1.2.2.2.1.2.2.2.2.1 s.2.1.2.2.2.1.2.2.2.2.2.1 s.2.2.1.1 s.2.2.1.2.1 s.2.2.1.2.2.1 s.2.2.1.2.2.2.1
noncomputable def F.zg.C26.ci (X : Type) (n : Nat) : CutI X:=⟨8,⟨0,0,0⟩,F.zg.C26.head,[F.zg.C26.en],[],[F.zg.C26.er],F.zg.C26.f n⟩
def F.zg.C27.head : Shape:=⟨[(0,.str),(2,(.const (.ref 0 0))),(3,(.const (.ref 1 0))),(10,(.const (.ref 3 0))),(11,(.int .i64)),(12,(.int .i64))],[[.str,(.int .i64),(.sl (.agg [.bool,(.int .u64),(.int .i64)]) (.own 0)),(.int .i64),(.sl (.agg [.str,.str]) (.own 1)),(.int .i64)],[(.int .i64),(.int .i64)],[.bool,(.int .u64),(.int .i64)],[.str,(.int .i64),(.sl (.agg [.bool,(.int .u64),(.int .i64)]) (.own 2)),(.int .i64),(.sl (.agg [.str,.str]) (.own 3)),(.int .i64)]],[true,true,true,true],[],[],4,0,0⟩
def F.zg.C27.er : Shape:=⟨[(2,(.const (.ref 0 0))),(3,(.const (.ref 1 0)))],[[.str,(.int .i64),(.sl (.agg [.bool,(.int .u64),(.int .i64)]) .unk),(.int .i64),(.sl (.agg [.str,.str]) .unk),(.int .i64)],[(.int .i64),(.int .i64)]],[],[],[],2,0,0⟩
noncomputable def F.zg.C27.f {X : Type} (n : Nat) (ks : Ks X) (s : F.zg.C27.head.den) : Option X:=F.zg.C27 n (fun qb0_0 qb0_1 qb0_2 qb0_3 qb0_4 qb0_5 qb1_0 qb1_1 => ks.ret (F.zg.C27.er.e (((),(),()),((qb0_0,qb0_1,qb0_2,qb0_3,qb0_4,qb0_5,()),(qb1_0,qb1_1,()),()),(),())) (F.zg.C27.er.h (((),(),()),((qb0_0,qb0_1,qb0_2,qb0_3,qb0_4,qb0_5,()),(qb1_0,qb1_1,()),()),(),()))) s.1.1 s.1.2.2.2.2.1 s.1.2.2.2.2.2.1 s.2.1.1.1 s.2.1.1.2.1 s.2.1.1.2.2.1 s.2.1.1.2.2.2.1 s.2.1.1.2.2.2.2.1 s.2.1.1.2.2.2.2.2.1 s.2.1.2.1.1 s.2.1.2.1.2.1 s.2.1.2.2.1.1 s.2.1.2.2.1.2.1 s.2.1.2.2.1.2.2.1 s.2.1.2.2.2.1.1 s.2.1.2.2.2.1.2.1 s.2.1.2.2.2.1.2.2.1 s.2.1.2.2.2.1.2.2.2.1 s.2.1.2.2.2.1.2.2.2.2.1 s.2.1.2.2.2.1.2.2.2.2.2.1 s.2.2.1.1 s.2.2.1.2.1 s.2.2.1.2.2.1 s.2.2.1.2.2.2.1
noncomputable def F.zg.C27.ci (X : Type) (n : Nat) : CutI X:=⟨8,⟨0,0,0⟩,F.zg.C27.head,[],[],[F.zg.C27.er],F.zg.C27.f n⟩
def F.zg.C18.head : Shape:=⟨[(0,.str),(2,(.const (.ref 0 0))),(3,(.const (.ref 1 0))),(4,(.int .i64)),(6,(.const (.ref 2 0))),(8,(.int .i64)),(9,(.int .i64))],[[.str,(.int .i64),(.sl (.agg [.bool,(.int .u64),(.int .i64)]) (.own 0)),(.int .i64),(.sl (.agg [.str,.str]) (.own 1)),(.int .i64)],[(.int .i64),(.int .i64)],[.bool,(.int .u64),(.int .i64)]],[true,true],[],[],3,0,0⟩
def F.zg.C18.er : Shape:=⟨[(2,(.const (.ref 0 0))),(3,(.const (.ref 1 0)))],[[.str,(.int .i64),(.sl (.agg [.bool,(.int .u64),(.int .i64)]) .unk),(.int .i64),(.sl (.agg [.str,.str]) .unk),(.int .i64)],[(.int .i64),(.int .i64)]],[],[],[],2,0,0⟩
noncomputable def F.zg.C18.f {X : Type} (n : Nat) (ks : Ks X) (s : F.zg.C18.head.den) : Option X:=F.zg.C18 n (fun qb0_0 qb0_1 qb0_2 qb0_3 qb0_4 qb0_5 qb1_0 qb1_1 => ks.ret (F.zg.C18.er.e (((),(),()),((qb0_0,qb0_1,qb0_2,qb0_3,qb0_4,qb0_5,()),(qb1_0,qb1_1,()),()),(),())) (F.zg.C18.er.h (((),(),()),((qb0_0,qb0_1,qb0_2,qb0_3,qb0_4,qb0_5,()),(qb1_0,qb1_1,()),()),(),()))) s.1.1 s.1.2.2.2.1 s.1.2.2.2.2.2.1 s.1.2.2.2.2.2.2.1 s.2.1.1.1 s.2.1.1.2.1 s.2.1.1.2.2.1 s.2.1.1.2.2.2.1 s.2.1.1.2.2.2.2.1 s.2.1.1.2.2.2.2.2.1 s.2.1.2.1.1 s.2.1.2.1.2.1 s.2.1.2.2.1.1 s.2.1.2.2.1.2.1 s.2.1.2.2.1.2.2.1 s.2.2.1.1 s.2.2.1.2.1
noncomputable def F.zg.C18.ci (X : Type) (n : Nat) : CutI X:=⟨8,⟨0,0,0⟩,F.zg.C18.head,[],[],[F.zg.C18.er],F.zg.C18.f n⟩
noncomputable def cx37 (X : Type) (n : Nat) : Cx X:=mkCx tab.get [(37,Tryz.f37)] [(69,orcOf [.str,(.int .i64),(.int .u8)] (.one (.int .i64)) (fun x => F.zp n x.1 x.2.1 x.2.2.1)),(70,orcOf [.str] (.one .bool) (fun x => F.za2 n x.1)),(71,orcOf [(.int .i64),(.int .i64)] (.many [(.agg [.str,(.int .i64),(.sl (.agg [.bool,(.int .u64),(.int .i64)]) .unk),(.int .i64),(.sl (.agg [.str,.str]) .unk),(.int .i64)]),(.agg [(.int .i64),(.int .i64)])]) (fun x => F.zaq n x.1 x.2.1)),(72,orcOf [.str] (.many [(.agg [.bool,(.int .u64),(.int .i64)]),(.agg [(.int .i64),(.int .i64)])]) (fun x => F.zn n x.1)),(73,orcOf [.str] (.one (.int .i64)) (fun x => F.zw n x.1)),(74,orcOf [.str] (.many [(.int .i64),(.agg [(.int .i64),(.int .i64)])]) (fun x => F.z6 n x.1))] [] [] [(37,18,[(4,7)])] [] [(37,18,[F.zg.C18.ci X n]),(37,26,[F.zg.C26.ci X n]),(37,27,[F.zg.C27.ci X n])]
theorem F.zg.C26.ok (X : Type) (n : Nat) : CutOK (cx37 X n) 37 Tryz.f37.ntmps (cutNo Tryz.f37 34) (F.zg.C26.ci X n):=
  fun ks s => by kernel_rfl
theorem F.zg.C27.ok (X : Type) (n : Nat) : CutOK (cx37 X n) 37 Tryz.f37.ntmps (cutNo Tryz.f37 33) (F.zg.C27.ci X n):=
  fun ks s => by kernel_rfl
theorem F.zg.C18.ok (X : Type) (n : Nat) : CutOK (cx37 X n) 37 Tryz.f37.ntmps (cutNo Tryz.f37 21) (F.zg.C18.ci X n):=
  fun ks s => by kernel_rfl
theorem zto (X : Type) (n : Nat) : CxOK Tryz.prog SW (cx37 X n):=zi mixed (tabOK zk) ⟨⟨Tryz.func37,by decide⟩,trivial⟩ ⟨zb (ok69 n),
  zb (ok70 n),
  zb (ok71 n),
  zb (ok72 n),
  zb (ok73 n),
  zb (ok74 n),trivial⟩ ⟨zg8 (castP (by kernel_rfl) (show (True) ∧ (True) ∧ (True) ∧ (True) ∧ (True) ∧ (True) ∧ (True) ∧ (True) ∧ (True) ∧ (True) ∧ (True) ∧ (True) ∧ (True) ∧ (True) ∧ (True) ∧ (True) ∧ (True) ∧ (True) ∧ (True) ∧ (True) ∧ (True) ∧ (CutOK (cx37 X n) 37 Tryz.f37.ntmps (cutNo Tryz.f37 21) (F.zg.C18.ci X n) ∧ True) ∧ (True) ∧ (True) ∧ (True) ∧ (True) ∧ (True) ∧ (True) ∧ (True) ∧ (True) ∧ (True) ∧ (True) ∧ (True) ∧ (CutOK (cx37 X n) 37 Tryz.f37.ntmps (cutNo Tryz.f37 33) (F.zg.C27.ci X n) ∧ True) ∧ (CutOK (cx37 X n) 37 Tryz.f37.ntmps (cutNo Tryz.f37 34) (F.zg.C26.ci X n) ∧ True) ∧ (True) ∧ (True) ∧ (True) ∧ (True) ∧ (True) ∧ (True) ∧ True from ⟨trivial,trivial,trivial,trivial,trivial,trivial,trivial,trivial,trivial,trivial,trivial,trivial,trivial,trivial,trivial,trivial,trivial,trivial,trivial,trivial,trivial,⟨F.zg.C18.ok X n,trivial⟩,trivial,trivial,trivial,trivial,trivial,trivial,trivial,trivial,trivial,trivial,trivial,⟨F.zg.C27.ok X n,trivial⟩,⟨F.zg.C26.ok X n,trivial⟩,trivial,trivial,trivial,trivial,trivial,trivial,trivial⟩)) (by kernel_rfl) (castP (by kernel_rfl) (show True from trivial)) (castP (by kernel_rfl) (show True from trivial)),trivial⟩ trivial
theorem ok37 (n : Nat) : FnOK Tryz.prog SW 37 [.str] (.many [(.agg [.str,(.int .i64),(.sl (.agg [.bool,(.int .u64),(.int .i64)]) .unk),(.int .i64),(.sl (.agg [.str,.str]) .unk),(.int .i64)]),(.agg [(.int .i64),(.int .i64)])]) (fun x => F.zg n x.1):=zh WOf.st (zto _ n) (d:=8) (fun x => by kernel_rfl)
def F.zr.L2.head : Shape:=⟨[(0,.str),(1,.str),(5,(.int .i64))],[],[],[],[],0,0,0⟩
def F.zr.L2.e0 : Shape:=⟨[(0,.str),(1,.str)],[],[],[],[],0,0,0⟩
def F.zr.L2.er : Shape:=⟨[(4,.bool)],[],[],[],[],0,0,0⟩
noncomputable def F.zr.L2.f {X : Type} (n m : Nat) (ks : Ks X) (s : F.zr.L2.head.den) : Option X:=F.zr.L2 n (fun q0 q1 => ks.ex 0 (F.zr.L2.e0.e ((q0,q1,()),(),(),())) (F.zr.L2.e0.h ((q0,q1,()),(),(),()))) (fun q4 => ks.ret (F.zr.L2.er.e ((q4,()),(),(),())) (F.zr.L2.er.h ((q4,()),(),(),()))) m s.1.1 s.1.2.1 s.1.2.2.1
noncomputable def F.zr.L2.li (X : Type) (n : Nat) : LoopI X:=⟨8,⟨0,0,0⟩,F.zr.L2.head,[(0,F.zr.L2.e0)],[F.zr.L2.er],F.zr.L2.f n n⟩
noncomputable def cx150 (X : Type) (n : Nat) : Cx X:=mkCx tab.get [(150,Tryz.f150)] [] [(150,2,[F.zr.L2.li X n])] [] [] []
theorem F.zr.L2.ok (X : Type) (n : Nat) : LoopOK (cx150 X n) 150 Tryz.f150.ntmps (loopNo Tryz.f150 0) (F.zr.L2.li X n):=
  ⟨F.zr.L2.f n,n,fun _ _ => rfl,fun _ _ => rfl,fun m ks s => by kernel_rfl⟩
theorem zrl (X : Type) (n : Nat) : CxOK Tryz.prog SW (cx150 X n):=zi mixed (tabOK zk) ⟨⟨Tryz.func150,by decide⟩,trivial⟩ trivial ⟨zg (fun _ => rfl) (by kernel_rfl) (castP (by kernel_rfl) (show (LoopOK (cx150 X n) 150 Tryz.f150.ntmps (loopNo Tryz.f150 0) (F.zr.L2.li X n) ∧ True) ∧ True from ⟨⟨F.zr.L2.ok X n,trivial⟩,trivial⟩)) (castP (by kernel_rfl) (show True from trivial)),trivial⟩ trivial
theorem ok150 (n : Nat) : FnOK Tryz.prog SW 150 [.str,.str] (.one .bool) (fun x => F.zr n x.1 x.2.1):=zh WOf.st (zrl _ n) (d:=8) (fun x => by kernel_rfl)
noncomputable def cx85 (X : Type) (n : Nat) : Cx X:=mkCx tab.get [(85,Tryz.f85)] [(150,orcOf [.str,.str] (.one .bool) (fun x => F.zr n x.1 x.2.1))] [] [] [] []
theorem ztp (X : Type) (n : Nat) : CxOK Tryz.prog SW (cx85 X n):=zi mixed (tabOK zk) ⟨⟨Tryz.func85,by decide⟩,trivial⟩ ⟨zb (ok150 n),trivial⟩ ⟨zg (fun _ => rfl) (by kernel_rfl) (castP (by kernel_rfl) (show True from trivial)) (castP (by kernel_rfl) (show True from trivial)),trivial⟩ trivial
theorem ok85 (n : Nat) : FnOK Tryz.prog SW 85 [(.agg [.str,.str]),(.agg [.str,.str])] (.one .bool) (fun x => F.zbf n x.1 x.2.1):=zh WOf.st (ztp _ n) (d:=8) (fun x => by kernel_rfl)
def F.zh.L8.head : Shape:=⟨[(0,(.sl (.agg [.str,.str]) .unk)),(3,(.sl (.agg [.str,.str]) (.own 0))),(4,(.int .i64)),(5,(.sl (.agg [.str,.str]) (.own 1))),(6,.bool),(7,(.int .i64))],[],[true,true],[],[],0,0,0⟩
def F.zh.L8.e2 : Shape:=⟨[(0,(.sl (.agg [.str,.str]) .unk)),(4,(.int .i64)),(5,(.sl (.agg [.str,.str]) (.own 0))),(6,.bool)],[],[true],[],[],0,0,0⟩
noncomputable def F.zh.L8.f {X : Type} (n m : Nat) (ks : Ks X) (s : F.zh.L8.head.den) : Option X:=F.zh.L8 n (fun q0 q4 q5 q6 qk0 => ks.ex 2 (F.zh.L8.e2.e ((q0,q4,q5,q6,()),(),(qk0,()),())) (F.zh.L8.e2.h ((q0,q4,q5,q6,()),(),(qk0,()),()))) m s.1.1 s.1.2.1 s.1.2.2.1 s.1.2.2.2.1 s.1.2.2.2.2.1 s.1.2.2.2.2.2.1 s.2.2.1.1 s.2.2.1.2.1
noncomputable def F.zh.L8.li (X : Type) (n : Nat) : LoopI X:=⟨8,⟨0,0,0⟩,F.zh.L8.head,[(2,F.zh.L8.e2)],[],F.zh.L8.f n n⟩
def F.zh.L3.head : Shape:=⟨[(0,(.sl (.agg [.str,.str]) .unk)),(3,(.sl (.agg [.str,.str]) (.own 0))),(4,(.int .i64))],[],[true],[],[],0,0,0⟩
def F.zh.L3.e0 : Shape:=⟨[(3,(.sl (.agg [.str,.str]) (.own 0)))],[],[true],[],[],0,0,0⟩
noncomputable def F.zh.L3.f {X : Type} (n m : Nat) (ks : Ks X) (s : F.zh.L3.head.den) : Option X:=F.zh.L3 n (fun q3 qk0 => ks.ex 0 (F.zh.L3.e0.e ((q3,()),(),(qk0,()),())) (F.zh.L3.e0.h ((q3,()),(),(qk0,()),()))) m s.1.1 s.1.2.1 s.1.2.2.1 s.2.2.1.1
noncomputable def F.zh.L3.li (X : Type) (n : Nat) : LoopI X:=⟨8,⟨0,0,0⟩,F.zh.L3.head,[(0,F.zh.L3.e0)],[],F.zh.L3.f n n⟩
noncomputable def cx42 (X : Type) (n : Nat) : Cx X:=mkCx tab.get [(42,Tryz.f42)] [(85,orcOf [(.agg [.str,.str]),(.agg [.str,.str])] (.one .bool) (fun x => F.zbf n x.1 x.2.1))] [(42,3,[F.zh.L3.li X n]),(42,8,[F.zh.L8.li X n])] [] [] []
theorem F.zh.L8.ok (X : Type) (n : Nat) : LoopOK (cx42 X n) 42 Tryz.f42.ntmps (loopNo Tryz.f42 1) (F.zh.L8.li X n):=
  ⟨F.zh.L8.f n,n,fun _ _ => rfl,fun _ _ => rfl,fun m ks s => by kernel_rfl⟩
theorem F.zh.L3.ok (X : Type) (n : Nat) : LoopOK (cx42 X n) 42 Tryz.f42.ntmps (loopNo Tryz.f42 0) (F.zh.L3.li X n):=
  ⟨F.zh.L3.f n,n,fun _ _ => rfl,fun _ _ => rfl,fun m ks s => by kernel_rfl⟩
theorem ztq (X : Type) (n : Nat) : CxOK Tryz.prog SW (cx42 X n):=zi mixed (tabOK zk) ⟨⟨Tryz.func42,by decide⟩,trivial⟩ ⟨zb (ok85 n),trivial⟩ ⟨zg (fun _ => rfl) (by kernel_rfl) (castP (by kernel_rfl) (show (LoopOK (cx42 X n) 42 Tryz.f42.ntmps (loopNo Tryz.f42 0) (F.zh.L3.li X n) ∧ True) ∧ (LoopOK (cx42 X n) 42 Tryz.f42.ntmps (loopNo Tryz.f42 1) (F.zh.L8.li X n) ∧ True) ∧ True from ⟨⟨F.zh.L3.ok X n,trivial⟩,⟨F.zh.L8.ok X n,trivial⟩,trivial⟩)) (castP (by kernel_rfl) (show True from trivial)),trivial⟩ trivial
theorem ok42 (n : Nat) : FnOK Tryz.prog SW 42 [(.sl (.agg [.str,.str]) .unk)] (.one (.sl (.agg [.str,.str]) .unk)) (fun x => F.zh n x.1):=zh WOf.st (ztq _ n) (d:=8) (fun x => by kernel_rfl)
def F.zac.L3.head : Shape:=⟨[(0,.str),(1,(.int .u8)),(2,(.int .i64)),(7,(.ms 1 (.agg [(.int .i64),.str]))),(8,(.int .i64))],[[(.row (.agg [(.int .i64),.str]))],[(.row (.agg [(.int .i64),.str]))]],[],[],[],2,0,0⟩
def F.zac.L3.e0 : Shape:=⟨[(7,(.ms 1 (.agg [(.int .i64),.str])))],[[(.row (.agg [(.int .i64),.str]))],[(.row (.agg [(.int .i64),.str]))]],[],[],[],2,0,0⟩
noncomputable def F.zac.L3.f {X : Type} (n m : Nat) (ks : Ks X) (s : F.zac.L3.head.den) : Option X:=F.zac.L3 n (fun q7 qb0_0 qb1_0 => ks.ex 0 (F.zac.L3.e0.e ((q7,()),((qb0_0,()),(qb1_0,()),()),(),())) (F.zac.L3.e0.h ((q7,()),((qb0_0,()),(qb1_0,()),()),(),()))) m s.1.1 s.1.2.1 s.1.2.2.1 s.1.2.2.2.1 s.1.2.2.2.2.1 s.2.1.1.1 s.2.1.2.1.1
noncomputable def F.zac.L3.li (X : Type) (n : Nat) : LoopI X:=⟨8,⟨0,0,0⟩,F.zac.L3.head,[(0,F.zac.L3.e0)],[],F.zac.L3.f n n⟩
noncomputable def cx75 (X : Type) (n : Nat) : Cx X:=mkCx tab.get [(75,Tryz.f75)] [] [(75,3,[F.zac.L3.li X n])] [] [] [] [] [(107,(.agg [(.int .i64),.str]))]
theorem F.zac.L3.ok (X : Type) (n : Nat) : LoopOK (cx75 X n) 75 Tryz.f75.ntmps (loopNo Tryz.f75 0) (F.zac.L3.li X n):=
  ⟨F.zac.L3.f n,n,fun _ _ => rfl,fun _ _ => rfl,fun m ks s => by kernel_rfl⟩
theorem ztr (X : Type) (n : Nat) : CxOK Tryz.prog SW (cx75 X n):=zi mixed (tabOK zk) ⟨⟨Tryz.func75,by decide⟩,trivial⟩ trivial ⟨zg (fun _ => rfl) (by kernel_rfl) (castP (by kernel_rfl) (show (LoopOK (cx75 X n) 75 Tryz.f75.ntmps (loopNo Tryz.f75 0) (F.zac.L3.li X n) ∧ True) ∧ True from ⟨⟨F.zac.L3.ok X n,trivial⟩,trivial⟩)) (castP (by kernel_rfl) (show True from trivial)),trivial⟩ trivial
theorem ok75 (n : Nat) : FnOK Tryz.prog SW 75 [.str,(.int .u8),(.int .i64)] (.one (.sl (.agg [(.int .i64),.str]) .unk)) (fun x => F.zac n x.1 x.2.1 x.2.2.1):=zh WOf.st (ztr _ n) (d:=8) (fun x => by kernel_rfl)
noncomputable def cx90 (X : Type) (n : Nat) : Cx X:=mkCx tab.get [(90,Tryz.f90)] [] [] [] [] []
theorem zts (X : Type) (n : Nat) : CxOK Tryz.prog SW (cx90 X n):=zi mixed (tabOK zk) ⟨⟨Tryz.func90,by decide⟩,trivial⟩ trivial ⟨zg (fun _ => rfl) (by kernel_rfl) (castP (by kernel_rfl) (show True from trivial)) (castP (by kernel_rfl) (show True from trivial)),trivial⟩ trivial
theorem ok90 (n : Nat) : FnOK Tryz.prog SW 90 [] (.one (.sl .str .unk)) (fun x => F.zbg n ):=zh WOf.st (zts _ n) (d:=8) (fun x => by kernel_rfl)
def F.zab.L3.head : Shape:=⟨[(0,.str),(3,(.sl .str .unk)),(4,(.int .i64))],[],[],[],[],0,0,0⟩
def F.zab.L3.e0 : Shape:=⟨[],[],[],[],[],0,0,0⟩
def F.zab.L3.er : Shape:=⟨[(2,(.int .i64))],[],[],[],[],0,0,0⟩
noncomputable def F.zab.L3.f {X : Type} (n m : Nat) (ks : Ks X) (s : F.zab.L3.head.den) : Option X:=F.zab.L3 n (fun (_ : Unit) => ks.ex 0 (F.zab.L3.e0.e ((),(),(),())) (F.zab.L3.e0.h ((),(),(),()))) (fun q2 => ks.ret (F.zab.L3.er.e ((q2,()),(),(),())) (F.zab.L3.er.h ((q2,()),(),(),()))) m s.1.1 s.1.2.1 s.1.2.2.1
noncomputable def F.zab.L3.li (X : Type) (n : Nat) : LoopI X:=⟨8,⟨0,0,0⟩,F.zab.L3.head,[(0,F.zab.L3.e0)],[F.zab.L3.er],F.zab.L3.f n n⟩
noncomputable def cx77 (X : Type) (n : Nat) : Cx X:=mkCx tab.get [(77,Tryz.f77)] [(90,orcOf [] (.one (.sl .str .unk)) (fun x => F.zbg n ))] [(77,3,[F.zab.L3.li X n])] [] [] []
theorem F.zab.L3.ok (X : Type) (n : Nat) : LoopOK (cx77 X n) 77 Tryz.f77.ntmps (loopNo Tryz.f77 0) (F.zab.L3.li X n):=
  ⟨F.zab.L3.f n,n,fun _ _ => rfl,fun _ _ => rfl,fun m ks s => by kernel_rfl⟩
theorem ztt (X : Type) (n : Nat) : CxOK Tryz.prog SW (cx77 X n):=zi mixed (tabOK zk) ⟨⟨Tryz.func77,by decide⟩,trivial⟩ ⟨zb (ok90 n),trivial⟩ ⟨zg (fun _ => rfl) (by kernel_rfl) (castP (by kernel_rfl) (show (LoopOK (cx77 X n) 77 Tryz.f77.ntmps (loopNo Tryz.f77 0) (F.zab.L3.li X n) ∧ True) ∧ True from ⟨⟨F.zab.L3.ok X n,trivial⟩,trivial⟩)) (castP (by kernel_rfl) (show True from trivial)),trivial⟩ trivial
theorem ok77 (n : Nat) : FnOK Tryz.prog SW 77 [.str] (.one (.int .i64)) (fun x => F.zab n x.1):=zh WOf.st (ztt _ n) (d:=8) (fun x => by kernel_rfl)
noncomputable def cx146 (X : Type) (n : Nat) : Cx X:=mkCx tab.get [(146,Tryz.f146)] [(143,orcOf [(.int .i64),.str] (.one (.int .i64)) (fun x => F.zy n x.1 x.2.1)),(144,orcOf [.str] (.many [(.int .i64),.bool]) (fun x => F.zq n x.1))] [] [] [] []
theorem zrm (X : Type) (n : Nat) : CxOK Tryz.prog SW (cx146 X n):=zi mixed (tabOK zk) ⟨⟨Tryz.func146,by decide⟩,trivial⟩ ⟨zb (ok143 n),
  zb (ok144 n),trivial⟩ ⟨zg (fun _ => rfl) (by kernel_rfl) (castP (by kernel_rfl) (show True from trivial)) (castP (by kernel_rfl) (show True from trivial)),trivial⟩ trivial
theorem ok146 (n : Nat) : FnOK Tryz.prog SW 146 [.str,(.int .i64),(.int .i64)] (.many [(.int .i64),(.agg [(.int .i64),(.int .i64)])]) (fun x => F.za9 n x.1 x.2.1 x.2.2.1):=zh WOf.st (zrm _ n) (d:=8) (fun x => by kernel_rfl)
noncomputable def cx80 (X : Type) (n : Nat) : Cx X:=mkCx tab.get [(80,Tryz.f80)] [(146,orcOf [.str,(.int .i64),(.int .i64)] (.many [(.int .i64),(.agg [(.int .i64),(.int .i64)])]) (fun x => F.za9 n x.1 x.2.1 x.2.2.1))] [] [] [] []
theorem ztu (X : Type) (n : Nat) : CxOK Tryz.prog SW (cx80 X n):=zi mixed (tabOK zk) ⟨⟨Tryz.func80,by decide⟩,trivial⟩ ⟨zb (ok146 n),trivial⟩ ⟨zg (fun _ => rfl) (by kernel_rfl) (castP (by kernel_rfl) (show True from trivial)) (castP (by kernel_rfl) (show True from trivial)),trivial⟩ trivial
theorem ok80 (n : Nat) : FnOK Tryz.prog SW 80 [.str] (.many [(.int .i64),(.agg [(.int .i64),(.int .i64)])]) (fun x => F.zax n x.1):=zh WOf.st (ztu _ n) (d:=8) (fun x => by kernel_rfl)
def F.zv.L2.head : Shape:=⟨[(0,.str),(3,(.int .i64))],[],[],[],[],0,0,0⟩
def F.zv.L2.e0 : Shape:=⟨[(0,.str)],[],[],[],[],0,0,0⟩
def F.zv.L2.er : Shape:=⟨[(2,.bool)],[],[],[],[],0,0,0⟩
noncomputable def F.zv.L2.f {X : Type} (n m : Nat) (ks : Ks X) (s : F.zv.L2.head.den) : Option X:=F.zv.L2 n (fun q0 => ks.ex 0 (F.zv.L2.e0.e ((q0,()),(),(),())) (F.zv.L2.e0.h ((q0,()),(),(),()))) (fun q2 => ks.ret (F.zv.L2.er.e ((q2,()),(),(),())) (F.zv.L2.er.h ((q2,()),(),(),()))) m s.1.1 s.1.2.1
noncomputable def F.zv.L2.li (X : Type) (n : Nat) : LoopI X:=⟨8,⟨0,0,0⟩,F.zv.L2.head,[(0,F.zv.L2.e0)],[F.zv.L2.er],F.zv.L2.f n n⟩
noncomputable def cx83 (X : Type) (n : Nat) : Cx X:=mkCx tab.get [(83,Tryz.f83)] [] [(83,2,[F.zv.L2.li X n])] [] [] []
theorem F.zv.L2.ok (X : Type) (n : Nat) : LoopOK (cx83 X n) 83 Tryz.f83.ntmps (loopNo Tryz.f83 0) (F.zv.L2.li X n):=
  ⟨F.zv.L2.f n,n,fun _ _ => rfl,fun _ _ => rfl,fun m ks s => by kernel_rfl⟩
theorem ztv (X : Type) (n : Nat) : CxOK Tryz.prog SW (cx83 X n):=zi mixed (tabOK zk) ⟨⟨Tryz.func83,by decide⟩,trivial⟩ trivial ⟨zg (fun _ => rfl) (by kernel_rfl) (castP (by kernel_rfl) (show (LoopOK (cx83 X n) 83 Tryz.f83.ntmps (loopNo Tryz.f83 0) (F.zv.L2.li X n) ∧ True) ∧ True from ⟨⟨F.zv.L2.ok X n,trivial⟩,trivial⟩)) (castP (by kernel_rfl) (show True from trivial)),trivial⟩ trivial
theorem ok83 (n : Nat) : FnOK Tryz.prog SW 83 [.str] (.one .bool) (fun x => F.zv n x.1):=zh WOf.st (ztv _ n) (d:=8) (fun x => by kernel_rfl)
noncomputable def cx149 (X : Type) (n : Nat) : Cx X:=mkCx tab.get [(149,Tryz.f149)] [(141,orcOf [(.int .i64),.str,(.int .i64),(.int .i64)] (.one (.agg [(.int .i64),(.int .i64)])) (fun x => F.za0 n x.1 x.2.1 x.2.2.1 x.2.2.2.1))] [] [] [] []
theorem zrn (X : Type) (n : Nat) : CxOK Tryz.prog SW (cx149 X n):=zi mixed (tabOK zk) ⟨⟨Tryz.func149,by decide⟩,trivial⟩ ⟨zb (ok141 n),trivial⟩ ⟨zg (fun _ => rfl) (by kernel_rfl) (castP (by kernel_rfl) (show True from trivial)) (castP (by kernel_rfl) (show True from trivial)),trivial⟩ trivial
theorem ok149 (n : Nat) : FnOK Tryz.prog SW 149 [(.agg [.str,.str])] (.one .bool) (fun x => F.zay n x.1):=zh WOf.st (zrn _ n) (d:=8) (fun x => by kernel_rfl)
noncomputable def cx152 (X : Type) (n : Nat) : Cx X:=mkCx tab.get [(152,Tryz.f152)] [] [] [] [] []
theorem zro (X : Type) (n : Nat) : CxOK Tryz.prog SW (cx152 X n):=zi mixed (tabOK zk) ⟨⟨Tryz.func152,by decide⟩,trivial⟩ trivial ⟨zg (fun _ => rfl) (by kernel_rfl) (castP (by kernel_rfl) (show True from trivial)) (castP (by kernel_rfl) (show True from trivial)),trivial⟩ trivial
theorem ok152 (n : Nat) : FnOK Tryz.prog SW 152 [(.agg [.str,.str])] (.one .str) (fun x => F.za1 n x.1):=zh WOf.st (zro _ n) (d:=8) (fun x => by kernel_rfl)
def F.zk.L10.head : Shape:=⟨[(0,.str),(3,(.const (.ref 0 0))),(4,(.sl (.agg [.str,.str]) (.own 0))),(5,(.int .i64)),(6,(.int .i64)),(7,.str),(8,(.const (.ref 1 0))),(9,(.int .i64))],[[(.int .i64),(.int .i64)],[.str,.str]],[true],[],[],2,0,0⟩
def F.zk.L10.e2 : Shape:=⟨[(0,.str),(3,(.const (.ref 0 0))),(4,(.sl (.agg [.str,.str]) (.own 0))),(5,(.int .i64)),(6,(.int .i64)),(7,.str),(8,(.const (.ref 1 0)))],[[(.int .i64),(.int .i64)],[.str,.str]],[true],[],[],2,0,0⟩
noncomputable def F.zk.L10.f {X : Type} (n m : Nat) (ks : Ks X) (s : F.zk.L10.head.den) : Option X:=F.zk.L10 n (fun q0 q4 q5 q6 q7 qb0_0 qb0_1 qb1_0 qb1_1 qk0 => ks.ex 2 (F.zk.L10.e2.e ((q0,(),q4,q5,q6,q7,(),()),((qb0_0,qb0_1,()),(qb1_0,qb1_1,()),()),(qk0,()),())) (F.zk.L10.e2.h ((q0,(),q4,q5,q6,q7,(),()),((qb0_0,qb0_1,()),(qb1_0,qb1_1,()),()),(qk0,()),()))) m s.1.1 s.1.2.2.1 s.1.2.2.2.1 s.1.2.2.2.2.1 s.1.2.2.2.2.2.1 s.1.2.2.2.2.2.2.2.1 s.2.1.1.1 s.2.1.1.2.1 s.2.1.2.1.1 s.2.1.2.1.2.1 s.2.2.1.1
noncomputable def F.zk.L10.li (X : Type) (n : Nat) : LoopI X:=⟨8,⟨0,0,0⟩,F.zk.L10.head,[(2,F.zk.L10.e2)],[],F.zk.L10.f n n⟩
def F.zk.L4.head : Shape:=⟨[(0,.str),(3,(.const (.ref 0 0))),(4,(.sl (.agg [.str,.str]) (.own 0))),(5,(.int .i64)),(6,(.int .i64))],[[(.int .i64),(.int .i64)]],[true],[],[],1,0,0⟩
def F.zk.L4.e0 : Shape:=⟨[(3,(.const (.ref 0 0))),(4,(.sl (.agg [.str,.str]) (.own 0)))],[[(.int .i64),(.int .i64)]],[true],[],[],1,0,0⟩
def F.zk.L4.er : Shape:=⟨[(2,(.sl (.agg [.str,.str]) (.own 0))),(3,(.const (.ref 0 0)))],[[(.int .i64),(.int .i64)]],[true],[],[],1,0,0⟩
noncomputable def F.zk.L4.f {X : Type} (n m : Nat) (ks : Ks X) (s : F.zk.L4.head.den) : Option X:=F.zk.L4 n (fun q4 qb0_0 qb0_1 qk0 => ks.ex 0 (F.zk.L4.e0.e (((),q4,()),((qb0_0,qb0_1,()),()),(qk0,()),())) (F.zk.L4.e0.h (((),q4,()),((qb0_0,qb0_1,()),()),(qk0,()),()))) (fun q2 qb0_0 qb0_1 qk0 => ks.ret (F.zk.L4.er.e ((q2,(),()),((qb0_0,qb0_1,()),()),(qk0,()),())) (F.zk.L4.er.h ((q2,(),()),((qb0_0,qb0_1,()),()),(qk0,()),()))) m s.1.1 s.1.2.2.1 s.1.2.2.2.1 s.1.2.2.2.2.1 s.2.1.1.1 s.2.1.1.2.1 s.2.2.1.1
noncomputable def F.zk.L4.li (X : Type) (n : Nat) : LoopI X:=⟨8,⟨0,0,0⟩,F.zk.L4.head,[(0,F.zk.L4.e0)],[F.zk.L4.er],F.zk.L4.f n n⟩
noncomputable def cx145 (X : Type) (n : Nat) : Cx X:=mkCx tab.get [(145,Tryz.f145)] [(149,orcOf [(.agg [.str,.str])] (.one .bool) (fun x => F.zay n x.1)),(152,orcOf [(.agg [.str,.str])] (.one .str) (fun x => F.za1 n x.1))] [(145,4,[F.zk.L4.li X n]),(145,10,[F.zk.L10.li X n])] [] [] []
theorem F.zk.L10.ok (X : Type) (n : Nat) : LoopOK (cx145 X n) 145 Tryz.f145.ntmps (loopNo Tryz.f145 1) (F.zk.L10.li X n):=
  ⟨F.zk.L10.f n,n,fun _ _ => rfl,fun _ _ => rfl,fun m ks s => by kernel_rfl⟩
theorem F.zk.L4.ok (X : Type) (n : Nat) : LoopOK (cx145 X n) 145 Tryz.f145.ntmps (loopNo Tryz.f145 0) (F.zk.L4.li X n):=
  ⟨F.zk.L4.f n,n,fun _ _ => rfl,fun _ _ => rfl,fun m ks s => by kernel_rfl⟩
theorem zrp (X : Type) (n : Nat) : CxOK Tryz.prog SW (cx145 X n):=zi mixed (tabOK zk) ⟨⟨Tryz.func145,by decide⟩,trivial⟩ ⟨zb (ok149 n),
  zb (ok152 n),trivial⟩ ⟨zg (fun _ => rfl) (by kernel_rfl) (castP (by kernel_rfl) (show (LoopOK (cx145 X n) 145 Tryz.f145.ntmps (loopNo Tryz.f145 0) (F.zk.L4.li X n) ∧ True) ∧ (LoopOK (cx145 X n) 145 Tryz.f145.ntmps (loopNo Tryz.f145 1) (F.zk.L10.li X n) ∧ True) ∧ True from ⟨⟨F.zk.L4.ok X n,trivial⟩,⟨F.zk.L10.ok X n,trivial⟩,trivial⟩)) (castP (by kernel_rfl) (show True from trivial)),trivial⟩ trivial
theorem ok145 (n : Nat) : FnOK Tryz.prog SW 145 [.str] (.many [(.sl (.agg [.str,.str]) .unk),(.agg [(.int .i64),(.int .i64)])]) (fun x => F.zk n x.1):=zh WOf.st (zrp _ n) (d:=8) (fun x => by kernel_rfl)
def F.zb.C19.head : Shape:=⟨[(2,(.const (.ref 0 0))),(3,(.const (.ref 1 0))),(4,(.const (.ref 2 0))),(5,(.sl (.agg [(.int .i64),.str]) .unk)),(6,(.const (.ref 3 0))),(8,(.int .i64)),(9,(.int .i64)),(10,(.int .i64)),(11,(.int .i64))],[[.str,(.int .i64),(.sl (.agg [.bool,(.int .u64),(.int .i64)]) (.own 0)),(.int .i64),(.sl (.agg [.str,.str]) (.own 1)),(.int .i64)],[(.int .i64),(.int .i64)],[.str,(.int .i64),(.sl (.agg [.bool,(.int .u64),(.int .i64)]) (.own 2)),(.int .i64),(.sl (.agg [.str,.str]) (.own 3)),(.int .i64)],[.str,(.int .i64),(.sl (.agg [.bool,(.int .u64),(.int .i64)]) (.own 4)),(.int .i64),(.sl (.agg [.str,.str]) .unk),(.int .i64)],[(.int .i64),.str],[(.int .i64),(.int .i64)],[(.int .i64),(.int .i64)]],[true,true,true,true,true],[],[],7,0,0⟩
def F.zb.C19.er : Shape:=⟨[(2,(.const (.ref 0 0))),(3,(.const (.ref 1 0)))],[[.str,(.int .i64),(.sl (.agg [.bool,(.int .u64),(.int .i64)]) (.own 0)),(.int .i64),(.sl (.agg [.str,.str]) (.own 1)),(.int .i64)],[(.int .i64),(.int .i64)],[.str,(.int .i64),(.sl (.agg [.bool,(.int .u64),(.int .i64)]) (.own 2)),(.int .i64),(.sl (.agg [.str,.str]) (.own 3)),(.int .i64)],[.str,(.int .i64),(.sl (.agg [.bool,(.int .u64),(.int .i64)]) (.own 4)),(.int .i64),(.sl (.agg [.str,.str]) .unk),(.int .i64)],[(.int .i64),.str],[(.int .i64),(.int .i64)],[(.int .i64),(.int .i64)]],[true,true,false,false,true],[],[],7,0,0⟩
def F.zb.C19.en : Shape:=⟨[(2,(.const (.ref 0 0))),(3,(.const (.ref 1 0))),(4,(.const (.ref 2 0))),(5,(.sl (.agg [(.int .i64),.str]) .unk)),(6,(.const (.ref 3 0))),(8,(.int .i64)),(9,(.int .i64))],[[.str,(.int .i64),(.sl (.agg [.bool,(.int .u64),(.int .i64)]) (.own 0)),(.int .i64),(.sl (.agg [.str,.str]) (.own 1)),(.int .i64)],[(.int .i64),(.int .i64)],[.str,(.int .i64),(.sl (.agg [.bool,(.int .u64),(.int .i64)]) (.own 2)),(.int .i64),(.sl (.agg [.str,.str]) (.own 3)),(.int .i64)],[.str,(.int .i64),(.sl (.agg [.bool,(.int .u64),(.int .i64)]) (.own 4)),(.int .i64),(.sl (.agg [.str,.str]) .unk),(.int .i64)],[(.int .i64),.str],[(.int .i64),(.int .i64)],[(.int .i64),(.int .i64)]],[true,true,true,true,true],[],[],7,0,0⟩
noncomputable def F.zb.C19.f {X : Type} (n : Nat) (ks : Ks X) (s : F.zb.C19.head.den) : Option X:=F.zb.C19 n (fun qb0_0 qb0_1 qb0_2 qb0_3 qb0_4 qb0_5 qb1_0 qb1_1 qb2_0 qb2_1 qb2_2 qb2_3 qb2_4 qb2_5 qb3_0 qb3_1 qb3_2 qb3_3 qb3_4 qb3_5 qb4_0 qb4_1 qb5_0 qb5_1 qb6_0 qb6_1 qk0 qk1 qk4 => ks.ret (F.zb.C19.er.e (((),(),()),((qb0_0,qb0_1,qb0_2,qb0_3,qb0_4,qb0_5,()),(qb1_0,qb1_1,()),(qb2_0,qb2_1,qb2_2,qb2_3,qb2_4,qb2_5,()),(qb3_0,qb3_1,qb3_2,qb3_3,qb3_4,qb3_5,()),(qb4_0,qb4_1,()),(qb5_0,qb5_1,()),(qb6_0,qb6_1,()),()),(qk0,qk1,qk4,()),())) (F.zb.C19.er.h (((),(),()),((qb0_0,qb0_1,qb0_2,qb0_3,qb0_4,qb0_5,()),(qb1_0,qb1_1,()),(qb2_0,qb2_1,qb2_2,qb2_3,qb2_4,qb2_5,()),(qb3_0,qb3_1,qb3_2,qb3_3,qb3_4,qb3_5,()),(qb4_0,qb4_1,()),(qb5_0,qb5_1,()),(qb6_0,qb6_1,()),()),(qk0,qk1,qk4,()),()))) (fun q5 q8 q9 qb0_0 qb0_1 qb0_2 qb0_3 qb0_4 qb0_5 qb1_0 qb1_1 qb2_0 qb2_1 qb2_2 qb2_3 qb2_4 qb2_5 qb3_0 qb3_1 qb3_2 qb3_3 qb3_4 qb3_5 qb4_0 qb4_1 qb5_0 qb5_1 qb6_0 qb6_1 qk0 qk1 qk2 qk3 qk4 => ks.nxt (F.zb.C19.en.e (((),(),(),q5,(),q8,q9,()),((qb0_0,qb0_1,qb0_2,qb0_3,qb0_4,qb0_5,()),(qb1_0,qb1_1,()),(qb2_0,qb2_1,qb2_2,qb2_3,qb2_4,qb2_5,()),(qb3_0,qb3_1,qb3_2,qb3_3,qb3_4,qb3_5,()),(qb4_0,qb4_1,()),(qb5_0,qb5_1,()),(qb6_0,qb6_1,()),()),(qk0,qk1,qk2,qk3,qk4,()),())) (F.zb.C19.en.h (((),(),(),q5,(),q8,q9,()),((qb0_0,qb0_1,qb0_2,qb0_3,qb0_4,qb0_5,()),(qb1_0,qb1_1,()),(qb2_0,qb2_1,qb2_2,qb2_3,qb2_4,qb2_5,()),(qb3_0,qb3_1,qb3_2,qb3_3,qb3_4,qb3_5,()),(qb4_0,qb4_1,()),(qb5_0,qb5_1,()),(qb6_0,qb6_1,()),()),(qk0,qk1,qk2,qk3,qk4,()),()))) s.1.2.2.2.1 s.1.2.2.2.2.2.1 s.1.2.2.2.2.2.2.1 s.1.2.2.2.2.2.2.2.1 s.1.2.2.2.2.2.2.2.2.1 s.2.1.1.1 s.2.1.1.2.1 s.2.1.1.2.2.1 s.2.1.1.2.2.2.1 s.2.1.1.2.2.2.2.1 s.2.1.1.2.2.2.2.2.1 s.2.1.2.1.1 s.2.1.2.1.2.1 s.2.1.2.2.1.1 s.2.1.2.2.1.2.1 s.2.1.2.2.1.2.2.1 s.2.1.2.2.1.2.2.2.1 s.2.1.2.2.1.2.2.2.2.1 s.2.1.2.2.1.2.2.2.2.2.1 s.2.1.2.2.2.1.1 s.2.1.2.2.2.1.2.1 s.2.1.2.2.2.1.2.2.1 s.2.1.2.2.2.1.2.2.2.1 s.2.1.2.2.2.1.2.2.2.2.1 s.2.1.2.2.2.1.2.2.2.2.2.1 s.2.1.2.2.2.2.1.1 s.2.1.2.2.2.2.1.2.1 s.2.1.2.2.2.2.2.1.1 s.2.1.2.2.2.2.2.1.2.1 s.2.1.2.2.2.2.2.2.1.1 s.2.1.2.2.2.2.2.2.1.2.1 s.2.2.1.1 s.2.2.1.2.1 s.2.2.1.2.2.1 s.2.2.1.2.2.2.1 s.2.2.1.2.2.2.2.1
noncomputable def F.zb.C19.ci (X : Type) (n : Nat) : CutI X:=⟨8,⟨0,0,0⟩,F.zb.C19.head,[F.zb.C19.en],[],[F.zb.C19.er],F.zb.C19.f n⟩
def F.zb.L16.head : Shape:=⟨[(2,(.const (.ref 0 0))),(3,(.const (.ref 1 0))),(4,(.const (.ref 2 0))),(5,(.sl (.agg [(.int .i64),.str]) .unk)),(6,(.const (.ref 3 0))),(8,(.int .i64)),(9,(.int .i64))],[[.str,(.int .i64),(.sl (.agg [.bool,(.int .u64),(.int .i64)]) (.own 0)),(.int .i64),(.sl (.agg [.str,.str]) (.own 1)),(.int .i64)],[(.int .i64),(.int .i64)],[.str,(.int .i64),(.sl (.agg [.bool,(.int .u64),(.int .i64)]) (.own 2)),(.int .i64),(.sl (.agg [.str,.str]) (.own 3)),(.int .i64)],[.str,(.int .i64),(.sl (.agg [.bool,(.int .u64),(.int .i64)]) (.own 4)),(.int .i64),(.sl (.agg [.str,.str]) .unk),(.int .i64)],[(.int .i64),.str],[(.int .i64),(.int .i64)],[(.int .i64),(.int .i64)]],[true,true,true,true,true],[],[],7,0,0⟩
def F.zb.L16.e0 : Shape:=⟨[(2,(.const (.ref 0 0))),(3,(.const (.ref 1 0))),(6,(.const (.ref 3 0)))],[[.str,(.int .i64),(.sl (.agg [.bool,(.int .u64),(.int .i64)]) (.own 0)),(.int .i64),(.sl (.agg [.str,.str]) (.own 1)),(.int .i64)],[(.int .i64),(.int .i64)],[.str,(.int .i64),(.sl (.agg [.bool,(.int .u64),(.int .i64)]) (.own 2)),(.int .i64),(.sl (.agg [.str,.str]) (.own 3)),(.int .i64)],[.str,(.int .i64),(.sl (.agg [.bool,(.int .u64),(.int .i64)]) (.own 4)),(.int .i64),(.sl (.agg [.str,.str]) .unk),(.int .i64)],[(.int .i64),.str],[(.int .i64),(.int .i64)],[(.int .i64),(.int .i64)]],[true,true,true,true,true],[],[],7,0,0⟩
def F.zb.L16.er : Shape:=⟨[(2,(.const (.ref 0 0))),(3,(.const (.ref 1 0)))],[[.str,(.int .i64),(.sl (.agg [.bool,(.int .u64),(.int .i64)]) (.own 0)),(.int .i64),(.sl (.agg [.str,.str]) (.own 1)),(.int .i64)],[(.int .i64),(.int .i64)],[.str,(.int .i64),(.sl (.agg [.bool,(.int .u64),(.int .i64)]) (.own 2)),(.int .i64),(.sl (.agg [.str,.str]) (.own 3)),(.int .i64)],[.str,(.int .i64),(.sl (.agg [.bool,(.int .u64),(.int .i64)]) (.own 4)),(.int .i64),(.sl (.agg [.str,.str]) .unk),(.int .i64)],[(.int .i64),.str],[(.int .i64),(.int .i64)],[(.int .i64),(.int .i64)]],[true,true,false,false,true],[],[],7,0,0⟩
noncomputable def F.zb.L16.f {X : Type} (n m : Nat) (ks : Ks X) (s : F.zb.L16.head.den) : Option X:=F.zb.L16 n (fun qb0_0 qb0_1 qb0_2 qb0_3 qb0_4 qb0_5 qb1_0 qb1_1 qb2_0 qb2_1 qb2_2 qb2_3 qb2_4 qb2_5 qb3_0 qb3_1 qb3_2 qb3_3 qb3_4 qb3_5 qb4_0 qb4_1 qb5_0 qb5_1 qb6_0 qb6_1 qk0 qk1 qk2 qk3 qk4 => ks.ex 0 (F.zb.L16.e0.e (((),(),(),()),((qb0_0,qb0_1,qb0_2,qb0_3,qb0_4,qb0_5,()),(qb1_0,qb1_1,()),(qb2_0,qb2_1,qb2_2,qb2_3,qb2_4,qb2_5,()),(qb3_0,qb3_1,qb3_2,qb3_3,qb3_4,qb3_5,()),(qb4_0,qb4_1,()),(qb5_0,qb5_1,()),(qb6_0,qb6_1,()),()),(qk0,qk1,qk2,qk3,qk4,()),())) (F.zb.L16.e0.h (((),(),(),()),((qb0_0,qb0_1,qb0_2,qb0_3,qb0_4,qb0_5,()),(qb1_0,qb1_1,()),(qb2_0,qb2_1,qb2_2,qb2_3,qb2_4,qb2_5,()),(qb3_0,qb3_1,qb3_2,qb3_3,qb3_4,qb3_5,()),(qb4_0,qb4_1,()),(qb5_0,qb5_1,()),(qb6_0,qb6_1,()),()),(qk0,qk1,qk2,qk3,qk4,()),()))) (fun qb0_0 qb0_1 qb0_2 qb0_3 qb0_4 qb0_5 qb1_0 qb1_1 qb2_0 qb2_1 qb2_2 qb2_3 qb2_4 qb2_5 qb3_0 qb3_1 qb3_2 qb3_3 qb3_4 qb3_5 qb4_0 qb4_1 qb5_0 qb5_1 qb6_0 qb6_1 qk0 qk1 qk4 => ks.ret (F.zb.L16.er.e (((),(),()),((qb0_0,qb0_1,qb0_2,qb0_3,qb0_4,qb0_5,()),(qb1_0,qb1_1,()),(qb2_0,qb2_1,qb2_2,qb2_3,qb2_4,qb2_5,()),(qb3_0,qb3_1,qb3_2,qb3_3,qb3_4,qb3_5,()),(qb4_0,qb4_1,()),(qb5_0,qb5_1,()),(qb6_0,qb6_1,()),()),(qk0,qk1,qk4,()),())) (F.zb.L16.er.h (((),(),()),((qb0_0,qb0_1,qb0_2,qb0_3,qb0_4,qb0_5,()),(qb1_0,qb1_1,()),(qb2_0,qb2_1,qb2_2,qb2_3,qb2_4,qb2_5,()),(qb3_0,qb3_1,qb3_2,qb3_3,qb3_4,qb3_5,()),(qb4_0,qb4_1,()),(qb5_0,qb5_1,()),(qb6_0,qb6_1,()),()),(qk0,qk1,qk4,()),()))) m s.1.2.2.2.1 s.1.2.2.2.2.2.1 s.1.2.2.2.2.2.2.1 s.2.1.1.1 s.2.1.1.2.1 s.2.1.1.2.2.1 s.2.1.1.2.2.2.1 s.2.1.1.2.2.2.2.1 s.2.1.1.2.2.2.2.2.1 s.2.1.2.1.1 s.2.1.2.1.2.1 s.2.1.2.2.1.1 s.2.1.2.2.1.2.1 s.2.1.2.2.1.2.2.1 s.2.1.2.2.1.2.2.2.1 s.2.1.2.2.1.2.2.2.2.1 s.2.1.2.2.1.2.2.2.2.2.1 s.2.1.2.2.2.1.1 s.2.1.2.2.2.1.2.1 s.2.1.2.2.2.1.2.2.1 s.2.1.2.2.2.1.2.2.2.1 s.2.1.2.2.2.1.2.2.2.2.1 s.2.1.2.2.2.1.2.2.2.2.2.1 s.2.1.2.2.2.2.1.1 s.2.1.2.2.2.2.1.2.1 s.2.1.2.2.2.2.2.1.1 s.2.1.2.2.2.2.2.1.2.1 s.2.1.2.2.2.2.2.2.1.1 s.2.1.2.2.2.2.2.2.1.2.1 s.2.2.1.1 s.2.2.1.2.1 s.2.2.1.2.2.1 s.2.2.1.2.2.2.1 s.2.2.1.2.2.2.2.1
noncomputable def F.zb.L16.li (X : Type) (n : Nat) : LoopI X:=⟨8,⟨0,0,0⟩,F.zb.L16.head,[(0,F.zb.L16.e0)],[F.zb.L16.er],F.zb.L16.f n n⟩
def F.zb.C7.head : Shape:=⟨[(0,.str),(2,(.const (.ref 0 0))),(3,(.const (.ref 1 0))),(4,(.const (.ref 2 0))),(5,(.sl (.agg [(.int .i64),.str]) .unk)),(6,(.const (.ref 3 0))),(7,(.const (.ref 6 0)))],[[.str,(.int .i64),(.sl (.agg [.bool,(.int .u64),(.int .i64)]) (.own 0)),(.int .i64),(.sl (.agg [.str,.str]) (.own 1)),(.int .i64)],[(.int .i64),(.int .i64)],[.str,(.int .i64),(.sl (.agg [.bool,(.int .u64),(.int .i64)]) (.own 2)),(.int .i64),(.sl (.agg [.str,.str]) (.own 3)),(.int .i64)],[.str,(.int .i64),(.sl (.agg [.bool,(.int .u64),(.int .i64)]) (.own 4)),(.int .i64),(.sl (.agg [.str,.str]) (.own 5)),(.int .i64)],[(.int .i64),.str],[(.int .i64),(.int .i64)],[(.int .i64),(.int .i64)]],[true,true,true,true,true,true],[],[],7,0,0⟩
def F.zb.C7.er : Shape:=⟨[(2,(.const (.ref 0 0))),(3,(.const (.ref 1 0)))],[[.str,(.int .i64),(.sl (.agg [.bool,(.int .u64),(.int .i64)]) (.own 0)),(.int .i64),(.sl (.agg [.str,.str]) .unk),(.int .i64)],[(.int .i64),(.int .i64)]],[true],[],[],2,0,0⟩
noncomputable def F.zb.C7.f {X : Type} (n : Nat) (ks : Ks X) (s : F.zb.C7.head.den) : Option X:=F.zb.C7 n (fun qb0_0 qb0_1 qb0_2 qb0_3 qb0_4 qb0_5 qb1_0 qb1_1 qk0 => ks.ret (F.zb.C7.er.e (((),(),()),((qb0_0,qb0_1,qb0_2,qb0_3,qb0_4,qb0_5,()),(qb1_0,qb1_1,()),()),(qk0,()),())) (F.zb.C7.er.h (((),(),()),((qb0_0,qb0_1,qb0_2,qb0_3,qb0_4,qb0_5,()),(qb1_0,qb1_1,()),()),(qk0,()),()))) s.1.1 s.1.2.2.2.2.1 s.2.1.1.1 s.2.1.1.2.1 s.2.1.1.2.2.1 s.2.1.1.2.2.2.1 s.2.1.1.2.2.2.2.1 s.2.1.1.2.2.2.2.2.1 s.2.1.2.1.1 s.2.1.2.1.2.1 s.2.1.2.2.1.1 s.2.1.2.2.1.2.1 s.2.1.2.2.1.2.2.1 s.2.1.2.2.1.2.2.2.1 s.2.1.2.2.1.2.2.2.2.1 s.2.1.2.2.1.2.2.2.2.2.1 s.2.1.2.2.2.1.1 s.2.1.2.2.2.1.2.1 s.2.1.2.2.2.1.2.2.1 s.2.1.2.2.2.1.2.2.2.1 s.2.1.2.2.2.1.2.2.2.2.1 s.2.1.2.2.2.1.2.2.2.2.2.1 s.2.1.2.2.2.2.1.1 s.2.1.2.2.2.2.1.2.1 s.2.1.2.2.2.2.2.1.1 s.2.1.2.2.2.2.2.1.2.1 s.2.1.2.2.2.2.2.2.1.1 s.2.1.2.2.2.2.2.2.1.2.1 s.2.2.1.1 s.2.2.1.2.1 s.2.2.1.2.2.1 s.2.2.1.2.2.2.1 s.2.2.1.2.2.2.2.1 s.2.2.1.2.2.2.2.2.1
noncomputable def F.zb.C7.ci (X : Type) (n : Nat) : CutI X:=⟨8,⟨0,0,0⟩,F.zb.C7.head,[],[],[F.zb.C7.er],F.zb.C7.f n⟩
def F.zb.L8_ref11_First.head : Shape:=⟨[(1,(.const (.ref 3 0))),(4,(.const (.ref 5 0))),(5,(.sl (.agg [(.int .i64),.str]) .unk)),(6,(.int .i64))],[[.str,(.int .i64),(.sl (.agg [.bool,(.int .u64),(.int .i64)]) (.own 0)),(.int .i64),(.sl (.agg [.str,.str]) (.own 1)),(.int .i64)],[(.int .i64),(.int .i64)],[.str,(.int .i64),(.sl (.agg [.bool,(.int .u64),(.int .i64)]) (.own 2)),(.int .i64),(.sl (.agg [.str,.str]) (.own 3)),(.int .i64)],[.str,(.int .i64),(.sl (.agg [.bool,(.int .u64),(.int .i64)]) (.own 4)),(.int .i64),(.sl (.agg [.str,.str]) (.own 5)),(.int .i64)],[(.int .i64),.str],[(.int .i64),(.int .i64)]],[true,true,true,true,true,true],[],[],6,0,0⟩
def F.zb.L8_ref11_First.e0 : Shape:=⟨[(4,(.const (.ref 5 0)))],[[.str,(.int .i64),(.sl (.agg [.bool,(.int .u64),(.int .i64)]) (.own 0)),(.int .i64),(.sl (.agg [.str,.str]) (.own 1)),(.int .i64)],[(.int .i64),(.int .i64)],[.str,(.int .i64),(.sl (.agg [.bool,(.int .u64),(.int .i64)]) (.own 2)),(.int .i64),(.sl (.agg [.str,.str]) (.own 3)),(.int .i64)],[.str,(.int .i64),(.sl (.agg [.bool,(.int .u64),(.int .i64)]) (.own 4)),(.int .i64),(.sl (.agg [.str,.str]) (.own 5)),(.int .i64)],[(.int .i64),.str],[(.int .i64),(.int .i64)]],[true,true,true,true,true,true],[],[],6,0,0⟩
def F.zb.L8_ref11_First.er : Shape:=⟨[(4,(.const (.ref 5 0)))],[[.str,(.int .i64),(.sl (.agg [.bool,(.int .u64),(.int .i64)]) (.own 0)),(.int .i64),(.sl (.agg [.str,.str]) (.own 1)),(.int .i64)],[(.int .i64),(.int .i64)],[.str,(.int .i64),(.sl (.agg [.bool,(.int .u64),(.int .i64)]) (.own 2)),(.int .i64),(.sl (.agg [.str,.str]) (.own 3)),(.int .i64)],[.str,(.int .i64),(.sl (.agg [.bool,(.int .u64),(.int .i64)]) (.own 4)),(.int .i64),(.sl (.agg [.str,.str]) (.own 5)),(.int .i64)],[(.int .i64),.str],[(.int .i64),(.int .i64)]],[true,true,true,true,true,true],[],[],6,0,0⟩
noncomputable def F.zb.L8_ref11_First.f {X : Type} (n m : Nat) (ks : Ks X) (s : F.zb.L8_ref11_First.head.den) : Option X:=F.zb.L8_ref11_First n (fun qb0_0 qb0_1 qb0_2 qb0_3 qb0_4 qb0_5 qb1_0 qb1_1 qb2_0 qb2_1 qb2_2 qb2_3 qb2_4 qb2_5 qb3_0 qb3_1 qb3_2 qb3_3 qb3_4 qb3_5 qb4_0 qb4_1 qb5_0 qb5_1 qk0 qk1 qk2 qk3 qk4 qk5 => ks.ex 0 (F.zb.L8_ref11_First.e0.e (((),()),((qb0_0,qb0_1,qb0_2,qb0_3,qb0_4,qb0_5,()),(qb1_0,qb1_1,()),(qb2_0,qb2_1,qb2_2,qb2_3,qb2_4,qb2_5,()),(qb3_0,qb3_1,qb3_2,qb3_3,qb3_4,qb3_5,()),(qb4_0,qb4_1,()),(qb5_0,qb5_1,()),()),(qk0,qk1,qk2,qk3,qk4,qk5,()),())) (F.zb.L8_ref11_First.e0.h (((),()),((qb0_0,qb0_1,qb0_2,qb0_3,qb0_4,qb0_5,()),(qb1_0,qb1_1,()),(qb2_0,qb2_1,qb2_2,qb2_3,qb2_4,qb2_5,()),(qb3_0,qb3_1,qb3_2,qb3_3,qb3_4,qb3_5,()),(qb4_0,qb4_1,()),(qb5_0,qb5_1,()),()),(qk0,qk1,qk2,qk3,qk4,qk5,()),()))) (fun qb0_0 qb0_1 qb0_2 qb0_3 qb0_4 qb0_5 qb1_0 qb1_1 qb2_0 qb2_1 qb2_2 qb2_3 qb2_4 qb2_5 qb3_0 qb3_1 qb3_2 qb3_3 qb3_4 qb3_5 qb4_0 qb4_1 qb5_0 qb5_1 qk0 qk1 qk2 qk3 qk4 qk5 => ks.ret (F.zb.L8_ref11_First.er.e (((),()),((qb0_0,qb0_1,qb0_2,qb0_3,qb0_4,qb0_5,()),(qb1_0,qb1_1,()),(qb2_0,qb2_1,qb2_2,qb2_3,qb2_4,qb2_5,()),(qb3_0,qb3_1,qb3_2,qb3_3,qb3_4,qb3_5,()),(qb4_0,qb4_1,()),(qb5_0,qb5_1,()),()),(qk0,qk1,qk2,qk3,qk4,qk5,()),())) (F.zb.L8_ref11_First.er.h (((),()),((qb0_0,qb0_1,qb0_2,qb0_3,qb0_4,qb0_5,()),(qb1_0,qb1_1,()),(qb2_0,qb2_1,qb2_2,qb2_3,qb2_4,qb2_5,()),(qb3_0,qb3_1,qb3_2,qb3_3,qb3_4,qb3_5,()),(qb4_0,qb4_1,()),(qb5_0,qb5_1,()),()),(qk0,qk1,qk2,qk3,qk4,qk5,()),()))) m s.1.2.2.1 s.1.2.2.2.1 s.2.1.1.1 s.2.1.1.2.1 s.2.1.1.2.2.1 s.2.1.1.2.2.2.1 s.2.1.1.2.2.2.2.1 s.2.1.1.2.2.2.2.2.1 s.2.1.2.1.1 s.2.1.2.1.2.1 s.2.1.2.2.1.1 s.2.1.2.2.1.2.1 s.2.1.2.2.1.2.2.1 s.2.1.2.2.1.2.2.2.1 s.2.1.2.2.1.2.2.2.2.1 s.2.1.2.2.1.2.2.2.2.2.1 s.2.1.2.2.2.1.1 s.2.1.2.2.2.1.2.1 s.2.1.2.2.2.1.2.2.1 s.2.1.2.2.2.1.2.2.2.1 s.2.1.2.2.2.1.2.2.2.2.1 s.2.1.2.2.2.1.2.2.2.2.2.1 s.2.1.2.2.2.2.1.1 s.2.1.2.2.2.2.1.2.1 s.2.1.2.2.2.2.2.1.1 s.2.1.2.2.2.2.2.1.2.1 s.2.2.1.1 s.2.2.1.2.1 s.2.2.1.2.2.1 s.2.2.1.2.2.2.1 s.2.2.1.2.2.2.2.1 s.2.2.1.2.2.2.2.2.1
noncomputable def F.zb.L8_ref11_First.li (X : Type) (n : Nat) : LoopI X:=⟨7,⟨4,0,0⟩,F.zb.L8_ref11_First.head,[(0,F.zb.L8_ref11_First.e0)],[F.zb.L8_ref11_First.er],F.zb.L8_ref11_First.f n n⟩
noncomputable def cx38 (X : Type) (n : Nat) : Cx X:=mkCx tab.get [(38,Tryz.f38),(76,Tryz.f76),(78,Tryz.f78)] [(42,orcOf [(.sl (.agg [.str,.str]) .unk)] (.one (.sl (.agg [.str,.str]) .unk)) (fun x => F.zh n x.1)),(72,orcOf [.str] (.many [(.agg [.bool,(.int .u64),(.int .i64)]),(.agg [(.int .i64),(.int .i64)])]) (fun x => F.zn n x.1)),(74,orcOf [.str] (.many [(.int .i64),(.agg [(.int .i64),(.int .i64)])]) (fun x => F.z6 n x.1)),(75,orcOf [.str,(.int .u8),(.int .i64)] (.one (.sl (.agg [(.int .i64),.str]) .unk)) (fun x => F.zac n x.1 x.2.1 x.2.2.1)),(77,orcOf [.str] (.one (.int .i64)) (fun x => F.zab n x.1)),(80,orcOf [.str] (.many [(.int .i64),(.agg [(.int .i64),(.int .i64)])]) (fun x => F.zax n x.1)),(83,orcOf [.str] (.one .bool) (fun x => F.zv n x.1)),(145,orcOf [.str] (.many [(.sl (.agg [.str,.str]) .unk),(.agg [(.int .i64),(.int .i64)])]) (fun x => F.zk n x.1))] [(38,16,[F.zb.L16.li X n]),(76,8,[F.zb.L8_ref11_First.li X n])] [] [(38,8,[(1,2)]),(38,13,[(4,6)]),(38,22,[(6,8)])] [] [(38,7,[F.zb.C7.ci X n]),(38,19,[F.zb.C19.ci X n])]
theorem F.zb.C19.ok (X : Type) (n : Nat) : CutOK (cx38 X n) 38 Tryz.f38.ntmps (cutNo Tryz.f38 24) (F.zb.C19.ci X n):=
  fun ks s => by kernel_rfl
theorem F.zb.C7.ok (X : Type) (n : Nat) : CutOK (cx38 X n) 38 Tryz.f38.ntmps (cutNo Tryz.f38 7) (F.zb.C7.ci X n):=
  fun ks s => by kernel_rfl
theorem F.zb.L16.ok (X : Type) (n : Nat) : LoopOK (cx38 X n) 38 Tryz.f38.ntmps (loopNo Tryz.f38 0) (F.zb.L16.li X n):=
  ⟨F.zb.L16.f n,n,fun _ _ => rfl,fun _ _ => rfl,fun m ks s => by kernel_rfl⟩
theorem F.zb.L8_ref11_First.ok (X : Type) (n : Nat) : LoopOK (cx38 X n) 76 Tryz.f76.ntmps (loopNo Tryz.f76 0) (F.zb.L8_ref11_First.li X n):=
  ⟨F.zb.L8_ref11_First.f n,n,fun _ _ => rfl,fun _ _ => rfl,fun m ks s => by kernel_rfl⟩
theorem ztw (X : Type) (n : Nat) : CxOK Tryz.prog SW (cx38 X n):=zi mixed (tabOK zk) ⟨⟨Tryz.func38,by decide⟩,
  ⟨Tryz.func76,by decide⟩,
  ⟨Tryz.func78,by decide⟩,trivial⟩ ⟨zb (ok42 n),
  zb (ok72 n),
  zb (ok74 n),
  zb (ok75 n),
  zb (ok77 n),
  zb (ok80 n),
  zb (ok83 n),
  zb (ok145 n),trivial⟩ ⟨zg8 (castP (by kernel_rfl) (show (True) ∧ (True) ∧ (True) ∧ (True) ∧ (True) ∧ (True) ∧ (True) ∧ (CutOK (cx38 X n) 38 Tryz.f38.ntmps (cutNo Tryz.f38 7) (F.zb.C7.ci X n) ∧ True) ∧ (True) ∧ (True) ∧ (True) ∧ (True) ∧ (True) ∧ (True) ∧ (True) ∧ (True) ∧ (True) ∧ (True) ∧ (True) ∧ (True) ∧ (True) ∧ (True) ∧ (True) ∧ (True) ∧ (CutOK (cx38 X n) 38 Tryz.f38.ntmps (cutNo Tryz.f38 24) (F.zb.C19.ci X n) ∧ True) ∧ (True) ∧ (True) ∧ (True) ∧ (True) ∧ (True) ∧ (True) ∧ True from ⟨trivial,trivial,trivial,trivial,trivial,trivial,trivial,⟨F.zb.C7.ok X n,trivial⟩,trivial,trivial,trivial,trivial,trivial,trivial,trivial,trivial,trivial,trivial,trivial,trivial,trivial,trivial,trivial,trivial,⟨F.zb.C19.ok X n,trivial⟩,trivial,trivial,trivial,trivial,trivial,trivial,trivial⟩)) (by kernel_rfl) (castP (by kernel_rfl) (show (LoopOK (cx38 X n) 38 Tryz.f38.ntmps (loopNo Tryz.f38 0) (F.zb.L16.li X n) ∧ True) ∧ True from ⟨⟨F.zb.L16.ok X n,trivial⟩,trivial⟩)) (castP (by kernel_rfl) (show True from trivial)),
  zg (fun _ => rfl) (by kernel_rfl) (castP (by kernel_rfl) (show (LoopOK (cx38 X n) 76 Tryz.f76.ntmps (loopNo Tryz.f76 0) (F.zb.L8_ref11_First.li X n) ∧ True) ∧ True from ⟨⟨F.zb.L8_ref11_First.ok X n,trivial⟩,trivial⟩)) (castP (by kernel_rfl) (show True from trivial)),
  zg (fun _ => rfl) (by kernel_rfl) (castP (by kernel_rfl) (show True from trivial)) (castP (by kernel_rfl) (show True from trivial)),trivial⟩ trivial
theorem ok38 (n : Nat) : FnOK Tryz.prog SW 38 [.str] (.many [(.agg [.str,(.int .i64),(.sl (.agg [.bool,(.int .u64),(.int .i64)]) .unk),(.int .i64),(.sl (.agg [.str,.str]) .unk),(.int .i64)]),(.agg [(.int .i64),(.int .i64)])]) (fun x => F.zb n x.1):=zh WOf.st (ztw _ n) (d:=8) (fun x => by kernel_rfl)
noncomputable def cx79 (X : Type) (n : Nat) : Cx X:=mkCx tab.get [(79,Tryz.f79)] [] [] [] [] []
theorem ztx (X : Type) (n : Nat) : CxOK Tryz.prog SW (cx79 X n):=zi mixed (tabOK zk) ⟨⟨Tryz.func79,by decide⟩,trivial⟩ trivial ⟨zg (fun _ => rfl) (by kernel_rfl) (castP (by kernel_rfl) (show True from trivial)) (castP (by kernel_rfl) (show True from trivial)),trivial⟩ trivial
theorem ok79 (n : Nat) : FnOK Tryz.prog SW 79 [(.int .i64),(.int .i64)] (.many [(.agg [.str,(.int .i64),(.sl (.agg [.bool,(.int .u64),(.int .i64)]) .unk),(.int .i64),(.sl (.agg [.str,.str]) .unk),(.int .i64)]),(.agg [(.int .i64),(.int .i64)])]) (fun x => F.zaw n x.1 x.2.1):=zh WOf.st (ztx _ n) (d:=8) (fun x => by kernel_rfl)
noncomputable def cx39 (X : Type) (n : Nat) : Cx X:=mkCx tab.get [(39,Tryz.f39)] [(69,orcOf [.str,(.int .i64),(.int .u8)] (.one (.int .i64)) (fun x => F.zp n x.1 x.2.1 x.2.2.1)),(70,orcOf [.str] (.one .bool) (fun x => F.za2 n x.1)),(72,orcOf [.str] (.many [(.agg [.bool,(.int .u64),(.int .i64)]),(.agg [(.int .i64),(.int .i64)])]) (fun x => F.zn n x.1)),(79,orcOf [(.int .i64),(.int .i64)] (.many [(.agg [.str,(.int .i64),(.sl (.agg [.bool,(.int .u64),(.int .i64)]) .unk),(.int .i64),(.sl (.agg [.str,.str]) .unk),(.int .i64)]),(.agg [(.int .i64),(.int .i64)])]) (fun x => F.zaw n x.1 x.2.1)),(80,orcOf [.str] (.many [(.int .i64),(.agg [(.int .i64),(.int .i64)])]) (fun x => F.zax n x.1))] [] [] [] []
theorem zty (X : Type) (n : Nat) : CxOK Tryz.prog SW (cx39 X n):=zi mixed (tabOK zk) ⟨⟨Tryz.func39,by decide⟩,trivial⟩ ⟨zb (ok69 n),
  zb (ok70 n),
  zb (ok72 n),
  zb (ok79 n),
  zb (ok80 n),trivial⟩ ⟨zg (fun _ => rfl) (by kernel_rfl) (castP (by kernel_rfl) (show True from trivial)) (castP (by kernel_rfl) (show True from trivial)),trivial⟩ trivial
theorem ok39 (n : Nat) : FnOK Tryz.prog SW 39 [.str] (.many [(.agg [.str,(.int .i64),(.sl (.agg [.bool,(.int .u64),(.int .i64)]) .unk),(.int .i64),(.sl (.agg [.str,.str]) .unk),(.int .i64)]),(.agg [(.int .i64),(.int .i64)])]) (fun x => F.zba n x.1):=zh WOf.st (zty _ n) (d:=8) (fun x => by kernel_rfl)
noncomputable def cx16 (X : Type) (n : Nat) : Cx X:=mkCx tab.get [(16,Tryz.f16)] [(18,orcOf [(.int .i64)] (.one .bool) (fun x => F.zbd n x.1)),(37,orcOf [.str] (.many [(.agg [.str,(.int .i64),(.sl (.agg [.bool,(.int .u64),(.int .i64)]) .unk),(.int .i64),(.sl (.agg [.str,.str]) .unk),(.int .i64)]),(.agg [(.int .i64),(.int .i64)])]) (fun x => F.zg n x.1)),(38,orcOf [.str] (.many [(.agg [.str,(.int .i64),(.sl (.agg [.bool,(.int .u64),(.int .i64)]) .unk),(.int .i64),(.sl (.agg [.str,.str]) .unk),(.int .i64)]),(.agg [(.int .i64),(.int .i64)])]) (fun x => F.zb n x.1)),(39,orcOf [.str] (.many [(.agg [.str,(.int .i64),(.sl (.agg [.bool,(.int .u64),(.int .i64)]) .unk),(.int .i64),(.sl (.agg [.str,.str]) .unk),(.int .i64)]),(.agg [(.int .i64),(.int .i64)])]) (fun x => F.zba n x.1))] [] [] [] []
theorem ztz (X : Type) (n : Nat) : CxOK Tryz.prog SW (cx16 X n):=zi mixed (tabOK zk) ⟨⟨Tryz.func16,by decide⟩,trivial⟩ ⟨zb (ok18 n),
  zb (ok37 n),
  zb (ok38 n),
  zb (ok39 n),trivial⟩ ⟨zg (fun _ => rfl) (by kernel_rfl) (castP (by kernel_rfl) (show True from trivial)) (castP (by kernel_rfl) (show True from trivial)),trivial⟩ trivial
theorem ok16 (n : Nat) : FnOK Tryz.prog SW 16 [.str,(.int .i64)] (.many [(.agg [.str,(.int .i64),(.sl (.agg [.bool,(.int .u64),(.int .i64)]) .unk),(.int .i64),(.sl (.agg [.str,.str]) .unk),(.int .i64)]),(.agg [(.int .i64),(.int .i64)])]) (fun x => F.zbb n x.1 x.2.1):=zh WOf.st (ztz _ n) (d:=8) (fun x => by kernel_rfl)
def F.zl.L9.head : Shape:=⟨[(0,(.sl .u8 .unk)),(1,(.int .i64)),(5,(.const (.ref 0 0))),(6,(.sl (.agg [.str,(.int .i64),(.sl (.agg [.bool,(.int .u64),(.int .i64)])),(.int .i64),(.sl (.agg [.str,.str])),(.int .i64)]) (.own 0))),(7,(.int .i64)),(8,(.int .i64))],[[(.int .i64),(.int .i64)]],[true],[],[],1,0,0⟩
def F.zl.L9.e2 : Shape:=⟨[(0,(.sl .u8 .unk)),(1,(.int .i64)),(5,(.const (.ref 0 0))),(6,(.sl (.agg [.str,(.int .i64),(.sl (.agg [.bool,(.int .u64),(.int .i64)])),(.int .i64),(.sl (.agg [.str,.str])),(.int .i64)]) (.own 0))),(7,(.int .i64)),(8,(.int .i64))],[[(.int .i64),(.int .i64)]],[true],[],[],1,0,0⟩
noncomputable def F.zl.L9.f {X : Type} (n m : Nat) (ks : Ks X) (s : F.zl.L9.head.den) : Option X:=F.zl.L9 n (fun q0 q1 q6 q7 q8 qb0_0 qb0_1 qk0 => ks.ex 2 (F.zl.L9.e2.e ((q0,q1,(),q6,q7,q8,()),((qb0_0,qb0_1,()),()),(qk0,()),())) (F.zl.L9.e2.h ((q0,q1,(),q6,q7,q8,()),((qb0_0,qb0_1,()),()),(qk0,()),()))) m s.1.1 s.1.2.1 s.1.2.2.2.1 s.1.2.2.2.2.1 s.1.2.2.2.2.2.1 s.2.1.1.1 s.2.1.1.2.1 s.2.2.1.1
noncomputable def F.zl.L9.li (X : Type) (n : Nat) : LoopI X:=⟨8,⟨0,0,0⟩,F.zl.L9.head,[(2,F.zl.L9.e2)],[],F.zl.L9.f n n⟩
def F.zl.L5.head : Shape:=⟨[(0,(.sl .u8 .unk)),(1,(.int .i64)),(5,(.const (.ref 0 0))),(6,(.sl (.agg [.str,(.int .i64),(.sl (.agg [.bool,(.int .u64),(.int .i64)])),(.int .i64),(.sl (.agg [.str,.str])),(.int .i64)]) (.own 0))),(7,(.int .i64))],[[(.int .i64),(.int .i64)]],[true],[],[],1,0,0⟩
def F.zl.L5.e0 : Shape:=⟨[(5,(.const (.ref 0 0))),(6,(.sl (.agg [.str,(.int .i64),(.sl (.agg [.bool,(.int .u64),(.int .i64)])),(.int .i64),(.sl (.agg [.str,.str])),(.int .i64)]) (.own 0)))],[[(.int .i64),(.int .i64)]],[true],[],[],1,0,0⟩
def F.zl.L5.er : Shape:=⟨[(4,(.sl (.agg [.str,(.int .i64),(.sl (.agg [.bool,(.int .u64),(.int .i64)])),(.int .i64),(.sl (.agg [.str,.str])),(.int .i64)]) (.own 0))),(5,(.const (.ref 0 0)))],[[(.int .i64),(.int .i64)]],[true],[],[],1,0,0⟩
noncomputable def F.zl.L5.f {X : Type} (n m : Nat) (ks : Ks X) (s : F.zl.L5.head.den) : Option X:=F.zl.L5 n (fun q6 qb0_0 qb0_1 qk0 => ks.ex 0 (F.zl.L5.e0.e (((),q6,()),((qb0_0,qb0_1,()),()),(qk0,()),())) (F.zl.L5.e0.h (((),q6,()),((qb0_0,qb0_1,()),()),(qk0,()),()))) (fun q4 qb0_0 qb0_1 qk0 => ks.ret (F.zl.L5.er.e ((q4,(),()),((qb0_0,qb0_1,()),()),(qk0,()),())) (F.zl.L5.er.h ((q4,(),()),((qb0_0,qb0_1,()),()),(qk0,()),()))) m s.1.1 s.1.2.1 s.1.2.2.2.1 s.1.2.2.2.2.1 s.2.1.1.1 s.2.1.1.2.1 s.2.2.1.1
noncomputable def F.zl.L5.li (X : Type) (n : Nat) : LoopI X:=⟨8,⟨0,0,0⟩,F.zl.L5.head,[(0,F.zl.L5.e0)],[F.zl.L5.er],F.zl.L5.f n n⟩
noncomputable def cx11 (X : Type) (n : Nat) : Cx X:=mkCx tab.get [(11,Tryz.f11)] [(16,orcOf [.str,(.int .i64)] (.many [(.agg [.str,(.int .i64),(.sl (.agg [.bool,(.int .u64),(.int .i64)]) .unk),(.int .i64),(.sl (.agg [.str,.str]) .unk),(.int .i64)]),(.agg [(.int .i64),(.int .i64)])]) (fun x => F.zbb n x.1 x.2.1)),(18,orcOf [(.int .i64)] (.one .bool) (fun x => F.zbd n x.1))] [(11,5,[F.zl.L5.li X n]),(11,9,[F.zl.L9.li X n])] [] [] []
theorem F.zl.L9.ok (X : Type) (n : Nat) : LoopOK (cx11 X n) 11 Tryz.f11.ntmps (loopNo Tryz.f11 1) (F.zl.L9.li X n):=
  ⟨F.zl.L9.f n,n,fun _ _ => rfl,fun _ _ => rfl,fun m ks s => by kernel_rfl⟩
theorem F.zl.L5.ok (X : Type) (n : Nat) : LoopOK (cx11 X n) 11 Tryz.f11.ntmps (loopNo Tryz.f11 0) (F.zl.L5.li X n):=
  ⟨F.zl.L5.f n,n,fun _ _ => rfl,fun _ _ => rfl,fun m ks s => by kernel_rfl⟩
theorem zt0 (X : Type) (n : Nat) : CxOK Tryz.prog SW (cx11 X n):=zi mixed (tabOK zk) ⟨⟨Tryz.func11,by decide⟩,trivial⟩ ⟨zb (ok16 n),
  zb (ok18 n),trivial⟩ ⟨zg (fun _ => rfl) (by kernel_rfl) (castP (by kernel_rfl) (show (LoopOK (cx11 X n) 11 Tryz.f11.ntmps (loopNo Tryz.f11 0) (F.zl.L5.li X n) ∧ True) ∧ (LoopOK (cx11 X n) 11 Tryz.f11.ntmps (loopNo Tryz.f11 1) (F.zl.L9.li X n) ∧ True) ∧ True from ⟨⟨F.zl.L5.ok X n,trivial⟩,⟨F.zl.L9.ok X n,trivial⟩,trivial⟩)) (castP (by kernel_rfl) (show True from trivial)),trivial⟩ trivial
theorem ok11 (n : Nat) : FnOK Tryz.prog SW 11 [(.sl .u8 .unk),(.int .i64)] (.many [(.sl (.agg [.str,(.int .i64),(.sl (.agg [.bool,(.int .u64),(.int .i64)])),(.int .i64),(.sl (.agg [.str,.str])),(.int .i64)]) .unk),(.agg [(.int .i64),(.int .i64)])]) (fun x => F.zl n x.1 x.2.1):=zh WOf.st (zt0 _ n) (d:=8) (fun x => by kernel_rfl)
def F.zi.L4.head : Shape:=⟨[(2,(.const (.ref 0 0))),(3,(.const (.ref 1 0))),(5,(.int .i64))],[[.str,(.int .i64),(.sl (.agg [.bool,(.int .u64),(.int .i64)]) .unk),(.int .i64),(.sl (.agg [.str,.str]) .unk),(.int .i64)],[.str,(.int .i64),(.sl (.agg [.bool,(.int .u64),(.int .i64)]) .unk),(.int .i64),(.sl (.agg [.str,.str]) .unk),(.int .i64)]],[],[],[],2,0,0⟩
def F.zi.L4.e0 : Shape:=⟨[(2,(.const (.ref 0 0))),(3,(.const (.ref 1 0)))],[[.str,(.int .i64),(.sl (.agg [.bool,(.int .u64),(.int .i64)]) .unk),(.int .i64),(.sl (.agg [.str,.str]) .unk),(.int .i64)],[.str,(.int .i64),(.sl (.agg [.bool,(.int .u64),(.int .i64)]) .unk),(.int .i64),(.sl (.agg [.str,.str]) .unk),(.int .i64)]],[],[],[],2,0,0⟩
def F.zi.L4.er : Shape:=⟨[(4,.bool)],[[.str,(.int .i64),(.sl (.agg [.bool,(.int .u64),(.int .i64)]) .unk),(.int .i64),(.sl (.agg [.str,.str]) .unk),(.int .i64)],[.str,(.int .i64),(.sl (.agg [.bool,(.int .u64),(.int .i64)]) .unk),(.int .i64),(.sl (.agg [.str,.str]) .unk),(.int .i64)]],[],[],[],2,0,0⟩
noncomputable def F.zi.L4.f {X : Type} (n m : Nat) (ks : Ks X) (s : F.zi.L4.head.den) : Option X:=F.zi.L4 n (fun qb0_0 qb0_1 qb0_2 qb0_3 qb0_4 qb0_5 qb1_0 qb1_1 qb1_2 qb1_3 qb1_4 qb1_5 => ks.ex 0 (F.zi.L4.e0.e (((),(),()),((qb0_0,qb0_1,qb0_2,qb0_3,qb0_4,qb0_5,()),(qb1_0,qb1_1,qb1_2,qb1_3,qb1_4,qb1_5,()),()),(),())) (F.zi.L4.e0.h (((),(),()),((qb0_0,qb0_1,qb0_2,qb0_3,qb0_4,qb0_5,()),(qb1_0,qb1_1,qb1_2,qb1_3,qb1_4,qb1_5,()),()),(),()))) (fun q4 qb0_0 qb0_1 qb0_2 qb0_3 qb0_4 qb0_5 qb1_0 qb1_1 qb1_2 qb1_3 qb1_4 qb1_5 => ks.ret (F.zi.L4.er.e ((q4,()),((qb0_0,qb0_1,qb0_2,qb0_3,qb0_4,qb0_5,()),(qb1_0,qb1_1,qb1_2,qb1_3,qb1_4,qb1_5,()),()),(),())) (F.zi.L4.er.h ((q4,()),((qb0_0,qb0_1,qb0_2,qb0_3,qb0_4,qb0_5,()),(qb1_0,qb1_1,qb1_2,qb1_3,qb1_4,qb1_5,()),()),(),()))) m s.1.2.2.1 s.2.1.1.1 s.2.1.1.2.1 s.2.1.1.2.2.1 s.2.1.1.2.2.2.1 s.2.1.1.2.2.2.2.1 s.2.1.1.2.2.2.2.2.1 s.2.1.2.1.1 s.2.1.2.1.2.1 s.2.1.2.1.2.2.1 s.2.1.2.1.2.2.2.1 s.2.1.2.1.2.2.2.2.1 s.2.1.2.1.2.2.2.2.2.1
noncomputable def F.zi.L4.li (X : Type) (n : Nat) : LoopI X:=⟨8,⟨0,0,0⟩,F.zi.L4.head,[(0,F.zi.L4.e0)],[F.zi.L4.er],F.zi.L4.f n n⟩
def F.zi.L9.head : Shape:=⟨[(2,(.const (.ref 0 0))),(3,(.const (.ref 1 0))),(6,(.int .i64))],[[.str,(.int .i64),(.sl (.agg [.bool,(.int .u64),(.int .i64)]) .unk),(.int .i64),(.sl (.agg [.str,.str]) .unk),(.int .i64)],[.str,(.int .i64),(.sl (.agg [.bool,(.int .u64),(.int .i64)]) .unk),(.int .i64),(.sl (.agg [.str,.str]) .unk),(.int .i64)]],[],[],[],2,0,0⟩
def F.zi.L9.e2 : Shape:=⟨[],[[.str,(.int .i64),(.sl (.agg [.bool,(.int .u64),(.int .i64)]) .unk),(.int .i64),(.sl (.agg [.str,.str]) .unk),(.int .i64)],[.str,(.int .i64),(.sl (.agg [.bool,(.int .u64),(.int .i64)]) .unk),(.int .i64),(.sl (.agg [.str,.str]) .unk),(.int .i64)]],[],[],[],2,0,0⟩
def F.zi.L9.er : Shape:=⟨[(4,.bool)],[[.str,(.int .i64),(.sl (.agg [.bool,(.int .u64),(.int .i64)]) .unk),(.int .i64),(.sl (.agg [.str,.str]) .unk),(.int .i64)],[.str,(.int .i64),(.sl (.agg [.bool,(.int .u64),(.int .i64)]) .unk),(.int .i64),(.sl (.agg [.str,.str]) .unk),(.int .i64)]],[],[],[],2,0,0⟩
noncomputable def F.zi.L9.f {X : Type} (n m : Nat) (ks : Ks X) (s : F.zi.L9.head.den) : Option X:=F.zi.L9 n (fun qb0_0 qb0_1 qb0_2 qb0_3 qb0_4 qb0_5 qb1_0 qb1_1 qb1_2 qb1_3 qb1_4 qb1_5 => ks.ex 2 (F.zi.L9.e2.e ((),((qb0_0,qb0_1,qb0_2,qb0_3,qb0_4,qb0_5,()),(qb1_0,qb1_1,qb1_2,qb1_3,qb1_4,qb1_5,()),()),(),())) (F.zi.L9.e2.h ((),((qb0_0,qb0_1,qb0_2,qb0_3,qb0_4,qb0_5,()),(qb1_0,qb1_1,qb1_2,qb1_3,qb1_4,qb1_5,()),()),(),()))) (fun q4 qb0_0 qb0_1 qb0_2 qb0_3 qb0_4 qb0_5 qb1_0 qb1_1 qb1_2 qb1_3 qb1_4 qb1_5 => ks.ret (F.zi.L9.er.e ((q4,()),((qb0_0,qb0_1,qb0_2,qb0_3,qb0_4,qb0_5,()),(qb1_0,qb1_1,qb1_2,qb1_3,qb1_4,qb1_5,()),()),(),())) (F.zi.L9.er.h ((q4,()),((qb0_0,qb0_1,qb0_2,qb0_3,qb0_4,qb0_5,()),(qb1_0,qb1_1,qb1_2,qb1_3,qb1_4,qb1_5,()),()),(),()))) m s.1.2.2.1 s.2.1.1.1 s.2.1.1.2.1 s.2.1.1.2.2.1 s.2.1.1.2.2.2.1 s.2.1.1.2.2.2.2.1 s.2.1.1.2.2.2.2.2.1 s.2.1.2.1.1 s.2.1.2.1.2.1 s.2.1.2.1.2.2.1 s.2.1.2.1.2.2.2.1 s.2.1.2.1.2.2.2.2.1 s.2.1.2.1.2.2.2.2.2.1
noncomputable def F.zi.L9.li (X : Type) (n : Nat) : LoopI X:=⟨8,⟨0,0,0⟩,F.zi.L9.head,[(2,F.zi.L9.e2)],[F.zi.L9.er],F.zi.L9.f n n⟩
noncomputable def cx17 (X : Type) (n : Nat) : Cx X:=mkCx tab.get [(17,Tryz.f17)] [] [(17,4,[F.zi.L4.li X n]),(17,9,[F.zi.L9.li X n])] [] [] []
theorem F.zi.L4.ok (X : Type) (n : Nat) : LoopOK (cx17 X n) 17 Tryz.f17.ntmps (loopNo Tryz.f17 0) (F.zi.L4.li X n):=
  ⟨F.zi.L4.f n,n,fun _ _ => rfl,fun _ _ => rfl,fun m ks s => by kernel_rfl⟩
theorem F.zi.L9.ok (X : Type) (n : Nat) : LoopOK (cx17 X n) 17 Tryz.f17.ntmps (loopNo Tryz.f17 1) (F.zi.L9.li X n):=
  ⟨F.zi.L9.f n,n,fun _ _ => rfl,fun _ _ => rfl,fun m ks s => by kernel_rfl⟩
theorem zt1 (X : Type) (n : Nat) : CxOK Tryz.prog SW (cx17 X n):=zi mixed (tabOK zk) ⟨⟨Tryz.func17,by decide⟩,trivial⟩ trivial ⟨zg (fun _ => rfl) (by kernel_rfl) (castP (by kernel_rfl) (show (LoopOK (cx17 X n) 17 Tryz.f17.ntmps (loopNo Tryz.f17 0) (F.zi.L4.li X n) ∧ True) ∧ (LoopOK (cx17 X n) 17 Tryz.f17.ntmps (loopNo Tryz.f17 1) (F.zi.L9.li X n) ∧ True) ∧ True from ⟨⟨F.zi.L4.ok X n,trivial⟩,⟨F.zi.L9.ok X n,trivial⟩,trivial⟩)) (castP (by kernel_rfl) (show True from trivial)),trivial⟩ trivial
theorem ok17 (n : Nat) : FnOK Tryz.prog SW 17 [(.agg [.str,(.int .i64),(.sl (.agg [.bool,(.int .u64),(.int .i64)]) .unk),(.int .i64),(.sl (.agg [.str,.str]) .unk),(.int .i64)]),(.agg [.str,(.int .i64),(.sl (.agg [.bool,(.int .u64),(.int .i64)]) .unk),(.int .i64),(.sl (.agg [.str,.str]) .unk),(.int .i64)])] (.one .bool) (fun x => F.zi n x.1 x.2.1):=zh WOf.st (zt1 _ n) (d:=8) (fun x => by kernel_rfl)
def F.zu.L4.head : Shape:=⟨[(0,(.sl (.agg [.str,(.int .i64),(.sl (.agg [.bool,(.int .u64),(.int .i64)])),(.int .i64),(.sl (.agg [.str,.str])),(.int .i64)]) .unk)),(1,(.sl (.agg [.str,(.int .i64),(.sl (.agg [.bool,(.int .u64),(.int .i64)])),(.int .i64),(.sl (.agg [.str,.str])),(.int .i64)]) .unk)),(5,(.int .i64))],[],[],[],[],0,0,0⟩
def F.zu.L4.e0 : Shape:=⟨[],[],[],[],[],0,0,0⟩
def F.zu.L4.er : Shape:=⟨[(4,.bool)],[],[],[],[],0,0,0⟩
noncomputable def F.zu.L4.f {X : Type} (n m : Nat) (ks : Ks X) (s : F.zu.L4.head.den) : Option X:=F.zu.L4 n (fun (_ : Unit) => ks.ex 0 (F.zu.L4.e0.e ((),(),(),())) (F.zu.L4.e0.h ((),(),(),()))) (fun q4 => ks.ret (F.zu.L4.er.e ((q4,()),(),(),())) (F.zu.L4.er.h ((q4,()),(),(),()))) m s.1.1 s.1.2.1 s.1.2.2.1
noncomputable def F.zu.L4.li (X : Type) (n : Nat) : LoopI X:=⟨8,⟨0,0,0⟩,F.zu.L4.head,[(0,F.zu.L4.e0)],[F.zu.L4.er],F.zu.L4.f n n⟩
noncomputable def cx12 (X : Type) (n : Nat) : Cx X:=mkCx tab.get [(12,Tryz.f12)] [(17,orcOf [(.agg [.str,(.int .i64),(.sl (.agg [.bool,(.int .u64),(.int .i64)]) .unk),(.int .i64),(.sl (.agg [.str,.str]) .unk),(.int .i64)]),(.agg [.str,(.int .i64),(.sl (.agg [.bool,(.int .u64),(.int .i64)]) .unk),(.int .i64),(.sl (.agg [.str,.str]) .unk),(.int .i64)])] (.one .bool) (fun x => F.zi n x.1 x.2.1))] [(12,4,[F.zu.L4.li X n])] [] [] []
theorem F.zu.L4.ok (X : Type) (n : Nat) : LoopOK (cx12 X n) 12 Tryz.f12.ntmps (loopNo Tryz.f12 0) (F.zu.L4.li X n):=
  ⟨F.zu.L4.f n,n,fun _ _ => rfl,fun _ _ => rfl,fun m ks s => by kernel_rfl⟩
theorem zt2 (X : Type) (n : Nat) : CxOK Tryz.prog SW (cx12 X n):=zi mixed (tabOK zk) ⟨⟨Tryz.func12,by decide⟩,trivial⟩ ⟨zb (ok17 n),trivial⟩ ⟨zg (fun _ => rfl) (by kernel_rfl) (castP (by kernel_rfl) (show (LoopOK (cx12 X n) 12 Tryz.f12.ntmps (loopNo Tryz.f12 0) (F.zu.L4.li X n) ∧ True) ∧ True from ⟨⟨F.zu.L4.ok X n,trivial⟩,trivial⟩)) (castP (by kernel_rfl) (show True from trivial)),trivial⟩ trivial
theorem ok12 (n : Nat) : FnOK Tryz.prog SW 12 [(.sl (.agg [.str,(.int .i64),(.sl (.agg [.bool,(.int .u64),(.int .i64)])),(.int .i64),(.sl (.agg [.str,.str])),(.int .i64)]) .unk),(.sl (.agg [.str,(.int .i64),(.sl (.agg [.bool,(.int .u64),(.int .i64)])),(.int .i64),(.sl (.agg [.str,.str])),(.int .i64)]) .unk)] (.one .bool) (fun x => F.zu n x.1 x.2.1):=zh WOf.st (zt2 _ n) (d:=8) (fun x => by kernel_rfl)
noncomputable def cx3 (X : Type) (n : Nat) : Cx X:=mkCx tab.get [(3,Tryz.f3)] [(9,orcOf [] (.one .bool) (fun x => F.za4 n )),(10,orcOf [(.sl .u8 .unk),(.int .i64)] (.many [(.sl (.agg [.str,(.int .i64),(.sl (.agg [.bool,(.int .u64),(.int .i64)])),(.int .i64),(.sl (.agg [.str,.str])),(.int .i64)]) .unk),(.agg [(.int .i64),(.int .i64)])]) (fun x => F.zd n x.1 x.2.1)),(11,orcOf [(.sl .u8 .unk),(.int .i64)] (.many [(.sl (.agg [.str,(.int .i64),(.sl (.agg [.bool,(.int .u64),(.int .i64)])),(.int .i64),(.sl (.agg [.str,.str])),(.int .i64)]) .unk),(.agg [(.int .i64),(.int .i64)])]) (fun x => F.zl n x.1 x.2.1)),(12,orcOf [(.sl (.agg [.str,(.int .i64),(.sl (.agg [.bool,(.int .u64),(.int .i64)])),(.int .i64),(.sl (.agg [.str,.str])),(.int .i64)]) .unk),(.sl (.agg [.str,(.int .i64),(.sl (.agg [.bool,(.int .u64),(.int .i64)])),(.int .i64),(.sl (.agg [.str,.str])),(.int .i64)]) .unk)] (.one .bool) (fun x => F.zu n x.1 x.2.1))] [] [] [] []
theorem zup (X : Type) (n : Nat) : CxOK Tryz.prog SW (cx3 X n):=zi mixed (tabOK zk) ⟨⟨Tryz.func3,by decide⟩,trivial⟩ ⟨zb (ok9 n),
  zb (ok10 n),
  zb (ok11 n),
  zb (ok12 n),trivial⟩ ⟨zg (fun _ => rfl) (by kernel_rfl) (castP (by kernel_rfl) (show True from trivial)) (castP (by kernel_rfl) (show True from trivial)),trivial⟩ trivial
theorem ok3 (n : Nat) : FnOK Tryz.prog SW 3 [(.sl .u8 .unk),(.int .i64)] (.one .bool) (fun x => F.za6 n x.1 x.2.1):=zh WOf.st (zup _ n) (d:=8) (fun x => by kernel_rfl)
end Go.AM
set_option linter.unusedVariables false
set_option linter.unusedSimpArgs false
namespace Go.AM
def isDig (b : UInt8) : Bool:=decide (48 ≤ b.toNat) && decide (b.toNat ≤ 57)
def dv (b : UInt8) : Nat:=b.toNat - 48
def valF (a : Nat) (l : List UInt8) : Nat:=l.foldl (fun a b => a * 10 + dv b) a
theorem zfy (a : Nat) : valF a [] = a:=rfl
theorem zh9 (a : Nat) (b : UInt8) (l : List UInt8) : valF a (b :: l) = valF (a * 10 + dv b) l:=by unfold valF; rw [List.foldl_cons]
def val (l : List UInt8) : Nat:=valF 0 l
def Digs (l : List UInt8) : Prop:=l.all isDig = true
theorem zab {b : UInt8} : isDig b = true ↔ 48 ≤ b.toNat ∧ b.toNat ≤ 57:=by simp [isDig]
theorem zw {b : UInt8} {l : List UInt8} : Digs (b :: l) ↔ isDig b = true ∧ Digs l:=by simp [Digs]
theorem z7 {l m : List UInt8} : Digs (l ++ m) ↔ Digs l ∧ Digs m:=by simp [Digs]
theorem zbx (k : Nat) : Digs (List.replicate k 48):=by
  unfold Digs
  rw [List.all_eq_true]
  intro x hx
  rw [List.eq_of_mem_replicate hx]
  rfl
theorem zo1 {l : List UInt8} (k : Nat) (h : Digs l) : Digs (l.take k):=by
  unfold Digs at h ⊢
  rw [List.all_eq_true] at h ⊢
  exact fun x hx => h x (List.mem_of_mem_take hx)
theorem ze4 {b : UInt8} (h : isDig b = true) : dv b < 10:=by
  have:=zab.1 h
  unfold dv
  omega
theorem zbc {a b : UInt8} (h : a.toNat = b.toNat) : a = b:=UInt8.toNat_inj.1 h
theorem zeq {a b : UInt8} (ha : isDig a = true) (hb : isDig b = true) (h : dv a = dv b) : a = b:=by
  have h1:=zab.1 ha
  have h2:=zab.1 hb
  unfold dv at h
  exact zbc (by omega)
theorem zma (a : Nat) (l : List UInt8) : valF a l = a * 10 ^ l.length + val l:=by
  unfold val
  induction l generalizing a with
  | nil => rw [zfy,zfy]; simp
  | cons b l ih =>
    simp only [zh9,List.length_cons]
    rw [ih (a * 10 + dv b),ih (0 * 10 + dv b),Nat.pow_succ,Nat.add_mul,Nat.zero_mul,Nat.zero_add,Nat.mul_assoc,Nat.mul_comm 10,Nat.add_assoc]
theorem zci : val [] = 0:=rfl
theorem zah (b : UInt8) (l : List UInt8) : val (b :: l) = dv b * 10 ^ l.length + val l:=by
  show valF (0 * 10 + dv b) l = _
  rw [zma,Nat.zero_mul,Nat.zero_add]
theorem zbf (l m : List UInt8) : val (l ++ m) = val l * 10 ^ m.length + val m:=by
  induction l with
  | nil => simp [zci]
  | cons b l ih => rw [List.cons_append,zah,zah,ih,List.length_append,Nat.pow_add,Nat.add_mul,Nat.mul_assoc,Nat.add_assoc]
theorem zby (l : List UInt8) (b : UInt8) : val (l ++ [b]) = val l * 10 + dv b:=by rw [zbf,zah]; simp [zci]
theorem zbq {l : List UInt8} (h : Digs l) : val l < 10 ^ l.length:=by
  induction l with
  | nil => simp [zci]
  | cons b l ih =>
    obtain ⟨h1,h2⟩:=zw.1 h
    have:=ih h2
    have hd:=ze4 h1
    rw [zah,List.length_cons,Nat.pow_succ,Nat.mul_comm (10 ^ l.length)]
    have h3 : dv b * 10 ^ l.length ≤ 9 * 10 ^ l.length:=Nat.mul_le_mul_right _ (by omega)
    omega
theorem zsm : dv 48 = 0:=rfl
theorem zha (k : Nat) : val (List.replicate k 48) = 0:=by
  induction k with
  | zero => rfl
  | succ k ih => rw [List.replicate_succ,zah,ih,zsm]; simp
theorem zhb (k : Nat) (l : List UInt8) : val (List.replicate k 48 ++ l) = val l:=by rw [zbf,zha]; simp
theorem zz (k : Nat) (l : List UInt8) : val (l ++ List.replicate k 48) = val l * 10 ^ k:=by rw [zbf,zha]; simp
theorem zlg {l : List UInt8} (hd : Digs l) (h : val l = 0) : l = List.replicate l.length 48:=by
  induction l with
  | nil => rfl
  | cons b l ih =>
    obtain ⟨h1,h2⟩:=zw.1 hd
    rw [zah] at h
    have hp : 0 < 10 ^ l.length:=Nat.pow_pos (by omega)
    have h3 : dv b = 0:=by
      cases hb : dv b with
      | zero => rfl
      | succ k => rw [hb,Nat.succ_mul] at h; omega
    rw [List.length_cons,List.replicate_succ,← ih h2 (by omega)]
    rw [zeq (a:=b) (b:=48) h1 rfl h3]
theorem zmb {l m : List UInt8} (hl : Digs l) (hm : Digs m) (hlen : l.length = m.length) (h : val l = val m) : l = m:=by
  induction l generalizing m with
  | nil => cases m with
    | nil => rfl
    | cons => simp at hlen
  | cons b l ih => cases m with
    | nil => simp at hlen
    | cons c m =>
      obtain ⟨h1,h2⟩:=zw.1 hl
      obtain ⟨h3,h4⟩:=zw.1 hm
      have hlen : l.length = m.length:=by simpa using hlen
      rw [zah,zah,hlen] at h
      have b1:=zbq h2
      have b2:=zbq h4
      rw [hlen] at b1
      have hp : 0 < 10 ^ m.length:=Nat.pow_pos (by omega)
      have e : dv b = dv c:=by
        have q1:=congrArg (· / 10 ^ m.length) h
        simp only [Nat.mul_comm (dv b),Nat.mul_comm (dv c),Nat.mul_add_div hp,Nat.div_eq_of_lt b1,Nat.div_eq_of_lt b2] at q1
        omega
      rw [e] at h
      rw [zeq h1 h3 e,ih h2 h4 hlen (by omega)]
theorem zo2 (k : Nat) (h : k < 10) : (UInt8.ofNat (48 + k)).toNat = 48 + k:=by simp [UInt8.toNat_ofNat']; omega
theorem zj5 (k : Nat) (h : k < 10) : isDig (UInt8.ofNat (48 + k)) = true:=by rw [zab,zo2 k h]; omega
theorem zsn (k : Nat) (h : k < 10) : dv (UInt8.ofNat (48 + k)) = k:=by unfold dv; rw [zo2 k h]; omega
theorem zfz {u : Nat} (h : u < 10) : Lib.decDigits u = [UInt8.ofNat (48 + u)]:=Lib.decDigits_one h
theorem zo3 {u : Nat} (h : ¬ u < 10) : Lib.decDigits u = Lib.decDigits (u / 10) ++ [UInt8.ofNat (48 + u % 10)]:=by rw [Lib.decDigits,dif_neg h]
theorem zdc (u : Nat) : Digs (Lib.decDigits u):=by
  induction u using Nat.strongRecOn with
  | _ u ih =>
    by_cases h : u < 10
    · rw [zfz h,zw]; exact ⟨zj5 u h,rfl⟩
    · rw [zo3 h,z7,zw]
      exact ⟨ih _ (by omega),zj5 _ (by omega),rfl⟩
theorem zdd (u : Nat) : val (Lib.decDigits u) = u:=by
  induction u using Nat.strongRecOn with
  | _ u ih =>
    by_cases h : u < 10
    · rw [zfz h,zah,zsn u h]; simp [zci]
    · rw [zo3 h,zby,ih _ (by omega),zsn _ (by omega)]; omega
theorem zo4 (u : Nat) : (Lib.decDigits u).length = Lib.nDigits u:=Lib.decDigits_length u
def Norm (l : List UInt8) : Prop:=l ≠ [] ∧ (l.head? = some 48→l.length = 1)
theorem pu10 (acc : Nat) (l : List UInt8) (hd : Digs l) (ha : acc < 18446744073709551616) : Lib.parseUint10 acc l = if valF acc l < 18446744073709551616 then .ok (valF acc l) else .range:=by
  induction l generalizing acc with
  | nil => rw [zfy,if_pos ha]; rfl
  | cons b l ih =>
    obtain ⟨h1,h2⟩:=zw.1 hd
    have hb:=zab.1 h1
    have hmono : ∀ x,x ≤ valF x l:=fun x => by
      rw [zma]
      have : 0 < 10 ^ l.length:=Nat.pow_pos (by omega)
      have:=Nat.le_mul_of_pos_right x this
      omega
    have hm:=hmono (acc * 10 + dv b)
    simp only [Lib.parseUint10,hb,and_self,if_true]
    rw [zh9]
    generalize hV : valF (acc * 10 + dv b) l = V at hm ⊢
    unfold dv at hm
    by_cases h3 : 1844674407370955162 ≤ acc
    · rw [if_pos h3,if_neg (by omega)]
    · rw [if_neg h3]
      by_cases h4 : 18446744073709551616 ≤ acc * 10 + (b.toNat - 48)
      · rw [if_pos h4,if_neg (by omega)]
      · rw [if_neg h4,ih _ h2 (by omega)]
        have : valF (acc * 10 + (b.toNat - 48)) l = V:=hV
        rw [this]
theorem zo5 {l : List UInt8} (hd : Digs l) (hn : l ≠ []) : Lib.atoiAll l = if val l < 9223372036854775808 then .ok (val l : Int) else .range:=by
  cases l with
  | nil => exact absurd rfl hn
  | cons b r =>
    have hb:=zab.1 (zw.1 hd).1
    simp only [Lib.atoiAll]
    rw [if_neg (by omega)]
    unfold Lib.parseMag
    rw [if_neg (by simp),pu10 0 _ hd (by omega)]
    have e : valF 0 (b :: r) = val (b :: r):=rfl
    rw [e]
    by_cases h1 : val (b :: r) < 18446744073709551616
    · rw [if_pos h1]
      simp only []
      by_cases h2 : val (b :: r) < 9223372036854775808
      · rw [if_pos h2,if_neg (by omega),if_neg (by omega),if_neg (by omega)]
      · rw [if_neg h2,if_pos (by omega)]
    · rw [if_neg h1,if_neg (by omega)]
def trz : List UInt8→List UInt8
  | [] => []
  | b :: l => if trz l = [] then (if b = 48 then [] else [b]) else b :: trz l
theorem zo6 (l : List UInt8) (c : UInt8) : ∃ k,l = Lib.trimRightB l c ++ List.replicate k c ∧ (∀ x,(Lib.trimRightB l c).getLast? = some x→x ≠ c):=by
  have h:=List.takeWhile_append_dropWhile (p:=fun b : UInt8 => b == c) (l:=l.reverse)
  refine ⟨(l.reverse.takeWhile (· == c)).length,?_,?_⟩
  · unfold Lib.trimRightB
    have h2:=congrArg List.reverse h
    rw [List.reverse_append,List.reverse_reverse] at h2
    have h3 : (l.reverse.takeWhile (· == c)).reverse = List.replicate (l.reverse.takeWhile (· == c)).length c:=by
      rw [List.eq_replicate_iff]
      refine ⟨by simp,fun b hb => ?_⟩
      have:=List.all_eq_true.1 (List.all_takeWhile (p:=fun b : UInt8 => b == c) (l:=l.reverse)) b (List.mem_reverse.1 hb)
      simpa using this
    rw [h3] at h2
    exact h2.symm
  · intro x hx
    unfold Lib.trimRightB at hx
    rw [List.getLast?_reverse] at hx
    have:=List.head?_dropWhile_not (p:=fun b : UInt8 => b == c) (l:=l.reverse)
    rw [hx] at this
    simpa using this
theorem zbg (l : List UInt8) : ∃ k,l = trz l ++ List.replicate k 48 ∧ (∀ x,(trz l).getLast? = some x→x ≠ 48):=by
  induction l with
  | nil => exact ⟨0,rfl,by simp [trz]⟩
  | cons b l ih =>
    obtain ⟨k,h1,h2⟩:=ih
    unfold trz
    by_cases h : trz l = []
    · rw [if_pos h]
      rw [h,List.nil_append] at h1
      by_cases hb : b = 48
      · rw [if_pos hb]
        exact ⟨k + 1,by rw [List.replicate_succ,← h1,hb]; rfl,by simp⟩
      · rw [if_neg hb]
        exact ⟨k,by rw [← h1]; rfl,by simp [hb]⟩
    · rw [if_neg h]
      refine ⟨k,by rw [List.cons_append,← h1],?_⟩
      intro x hx
      rw [List.getLast?_cons] at hx
      cases e : (trz l).getLast? with
      | none => simp at e; exact absurd e h
      | some y =>
        rw [e] at hx
        have hy:=h2 y e
        simp at hx
        rw [← hx]; exact hy
theorem zf0 {a b : List UInt8} {c : UInt8} {i j : Nat} (h : a ++ List.replicate i c = b ++ List.replicate j c) (ha : ∀ x,a.getLast? = some x→x ≠ c) (hb : ∀ x,b.getLast? = some x→x ≠ c) : a = b:=by
  induction i generalizing j with
  | zero =>
    cases j with
    | zero => simpa using h
    | succ j =>
      rw [List.replicate_succ',← List.append_assoc] at h
      simp only [List.replicate_zero,List.append_nil] at h
      exact absurd rfl (ha c (by rw [h]; simp))
  | succ i ih =>
    cases j with
    | zero =>
      rw [List.replicate_succ',← List.append_assoc] at h
      simp only [List.replicate_zero,List.append_nil] at h
      exact absurd rfl (hb c (by rw [← h]; simp))
    | succ j =>
      rw [List.replicate_succ',List.replicate_succ',← List.append_assoc,← List.append_assoc] at h
      exact ih (List.append_inj_left' h rfl)
theorem zo7 (l : List UInt8) : Lib.trimRightB l 48 = trz l:=by
  obtain ⟨i,h1,h2⟩:=zo6 l 48
  obtain ⟨j,h3,h4⟩:=zbg l
  exact zf0 (h1.symm.trans h3) h2 h4
theorem zia (l : List UInt8) (k : Nat) : trz (l ++ List.replicate k 48) = trz l:=by
  obtain ⟨i,h1,h2⟩:=zbg (l ++ List.replicate k 48)
  obtain ⟨j,h3,h4⟩:=zbg l
  refine zf0 (i:=i) (j:=j + k) (c:=48) ?_ h2 h4
  rw [← h1]
  conv => lhs; rw [h3]
  rw [List.append_assoc,List.replicate_append_replicate]
theorem zj6 {l : List UInt8} (h : ∀ x,l.getLast? = some x→x ≠ 48) : trz l = l:=by
  obtain ⟨j,h3,h4⟩:=zbg l
  exact (zf0 (i:=0) (j:=j) (c:=48) (by rw [← h3]; simp) h h4).symm
theorem zj7 (l : List UInt8) : (trz l).length ≤ l.length:=by
  obtain ⟨k,h1,_⟩:=zbg l
  have:=congrArg List.length h1
  simp at this
  omega
theorem zco {l : List UInt8} (h : Digs l) : Digs (trz l):=by
  obtain ⟨k,h1,_⟩:=zbg l
  rw [h1,z7] at h
  exact h.1
theorem zbz (l : List UInt8) : l = trz l ++ List.replicate (l.length - (trz l).length) 48:=by
  obtain ⟨k,h1,_⟩:=zbg l
  have:=congrArg List.length h1
  simp at this
  rw [show l.length - (trz l).length = k from by omega]
  exact h1
theorem zcp {l : List UInt8} {x : UInt8} (h : (trz l).getLast? = some x) : x ≠ 48:=by
  obtain ⟨k,_,h2⟩:=zbg l
  exact h2 x h
theorem zhc {l : List UInt8} (hd : Digs l) : trz l = [] ↔ val l = 0:=by
  constructor
  · intro h
    have:=zbz l
    rw [h,List.nil_append] at this
    rw [this,zha]
  · intro h
    have:=zlg hd h
    obtain ⟨k,h1,h2⟩:=zbg l
    rw [this] at h1 ⊢
    have:=zia [] l.length
    simpa [trz] using this
theorem zt3 (b c : UInt8) (l m : List UInt8) : Op.bytesLess (b :: l) (c :: m) = (decide (b.toNat < c.toNat) || (decide (b.toNat = c.toNat) && Op.bytesLess l m)):=by
  show (decide (b < c) || ((b == c) && Op.bytesLess l m)) = _
  congr 1
  congr 1
  by_cases h : b = c
  · simp [h]
  · have : ¬ b.toNat = c.toNat:=fun hh => h (zbc hh)
    simp [h,this]
theorem zrq {l m : List UInt8} (hl : Digs l) (hm : Digs m) (hlen : l.length = m.length) : Op.bytesLess l m = decide (val l < val m):=by
  induction l generalizing m with
  | nil => cases m with
    | nil => rfl
    | cons => simp at hlen
  | cons b l ih => cases m with
    | nil => simp at hlen
    | cons c m =>
      obtain ⟨h1,h2⟩:=zw.1 hl
      obtain ⟨h3,h4⟩:=zw.1 hm
      have hlen : l.length = m.length:=by simpa using hlen
      have b1:=zbq h2
      have b2:=zbq h4
      rw [hlen] at b1
      have d1:=zab.1 h1
      have d2:=zab.1 h3
      rw [zt3,zah,zah,hlen]
      by_cases hn : b.toNat < c.toNat
      · have : (dv b + 1) * 10 ^ m.length ≤ dv c * 10 ^ m.length:=Nat.mul_le_mul_right _ (by unfold dv; omega)
        rw [Nat.add_mul] at this
        have h5 : dv b * 10 ^ m.length + val l < dv c * 10 ^ m.length + val m:=by omega
        simp [hn,h5]
      · by_cases hn' : c.toNat < b.toNat
        · have : (dv c + 1) * 10 ^ m.length ≤ dv b * 10 ^ m.length:=Nat.mul_le_mul_right _ (by unfold dv; omega)
          rw [Nat.add_mul] at this
          have h5 : ¬ dv b * 10 ^ m.length + val l < dv c * 10 ^ m.length + val m:=by omega
          have h6 : ¬ b.toNat = c.toNat:=by omega
          simp [hn,h5,h6]
        · rw [ih h2 h4 hlen]
          have : b = c:=zbc (by omega)
          subst this
          simp
end Go.AM
set_option linter.unusedVariables false
set_option linter.unusedSimpArgs false
namespace Go.AM
abbrev DecD:=Bool × Int × Int × Unit
abbrev DecR:=DecD × Int × Unit
def two64 : Nat:=18446744073709551616
theorem zai : two64 = 18446744073709551616:=rfl
def normR (neg : Bool) (c0 : Nat) (E : Int) : DecR:=
  if E < -18 then ((false,0,0,()),10,()) else if c0 * 10 ^ (E - 18).toNat < two64 then ((neg,((c0 * 10 ^ (E - 18).toNat : Nat) : Int),(if E ≤ 18 then E else 18),()),0,()) else ((false,0,0,()),10,())
def zeroD : DecR:=((false,0,0,()),0,())
def valR (neg : Bool) (d : List UInt8) (e : Int) : DecR:=
  if val d = 0 then zeroD else normR neg (val (trz d)) (e + ((d.length - (trz d).length : Nat) : Int))
theorem zmc (d : List UInt8) : val d = val (trz d) * 10 ^ (d.length - (trz d).length):=by
  have:=congrArg val (zbz d)
  rw [zz] at this
  exact this
theorem zf1 {d : List UInt8} (hd : Digs d) (h : val d ≠ 0) : val (trz d) % 10 ≠ 0:=by
  have hne : trz d ≠ []:=fun hh => h ((zhc hd).1 hh)
  obtain ⟨x,hx⟩ : ∃ x,(trz d).getLast? = some x:=by
    cases e : (trz d).getLast? with
    | none => simp at e; exact absurd e hne
    | some x => exact ⟨x,rfl⟩
  have hx48:=zcp hx
  obtain ⟨ys,hys⟩:=List.getLast?_eq_some_iff.1 hx
  have hdig:=zco hd
  rw [hys] at hdig ⊢
  obtain ⟨_,h2⟩:=z7.1 hdig
  obtain ⟨h3,_⟩:=zw.1 h2
  rw [zby]
  have:=ze4 h3
  have h0 : dv x ≠ 0:=fun h0 => hx48 (zeq h3 (b:=48) rfl h0)
  omega
theorem zlh {a b i j : Nat} (ha : a % 10 ≠ 0) (hb : b % 10 ≠ 0) (h : a * 10 ^ i = b * 10 ^ j) : a = b ∧ i = j:=by
  induction i generalizing j with
  | zero =>
    cases j with
    | zero => simpa using h
    | succ j => rw [Nat.pow_zero,Nat.mul_one,Nat.pow_succ,← Nat.mul_assoc] at h; omega
  | succ i ih =>
    cases j with
    | zero => rw [Nat.pow_zero,Nat.mul_one,Nat.pow_succ,← Nat.mul_assoc] at h; omega
    | succ j =>
      rw [Nat.pow_succ,Nat.pow_succ,← Nat.mul_assoc,← Nat.mul_assoc] at h
      obtain ⟨h1,h2⟩:=ih (Nat.eq_of_mul_eq_mul_right (by omega) h)
      exact ⟨h1,by omega⟩
theorem zaq {d : List UInt8} (hd : Digs d) {c0 z : Nat} (h0 : c0 % 10 ≠ 0) (hv : val d = c0 * 10 ^ z) (neg : Bool) (e : Int) : valR neg d e = normR neg c0 (e + z):=by
  have hne : val d ≠ 0:=by
    rw [hv]
    have:=Nat.mul_pos (show 0 < c0 by omega) (Nat.pow_pos (n:=z) (show 0 < 10 by omega))
    omega
  unfold valR
  rw [if_neg hne]
  obtain ⟨h1,h2⟩:=zlh (zf1 hd hne) h0 ((zmc d).symm.trans hv)
  rw [h1,h2]
theorem zc1 (c : Nat) (h : 0 < c) : ∃ c0 z,c = c0 * 10 ^ z ∧ c0 % 10 ≠ 0:=by
  induction c using Nat.strongRecOn with
  | _ c ih =>
    by_cases h1 : c % 10 = 0
    · obtain ⟨c0,z,h2,h3⟩:=ih (c / 10) (by omega) (by omega)
      exact ⟨c0,z + 1,by rw [Nat.pow_succ,← Nat.mul_assoc,← h2]; omega,h3⟩
    · exact ⟨c,0,by simp,h1⟩
theorem zcq (neg : Bool) {d : List UInt8} (hd : Digs d) (k : Nat) (e : Int) : valR neg (d ++ List.replicate k 48) e = valR neg d (e + k):=by
  have hD : Digs (d ++ List.replicate k 48):=z7.2 ⟨hd,zbx _⟩
  by_cases h : val d = 0
  · have : val (d ++ List.replicate k 48) = 0:=by rw [zz,h]; simp
    unfold valR
    rw [if_pos h,if_pos this]
  · obtain ⟨c0,z,h1,h2⟩:=zc1 (val d) (by omega)
    rw [zaq hd h2 h1,zaq hD h2 (z:=z + k) (by rw [zz,h1,Nat.pow_add,Nat.mul_assoc])]
    congr 1
    omega
theorem zj8 (n : Nat) (c d : Nat) (hc : c < two64) (hd : d < two64) : F.za5 n (c : Int) (d : Int) = some ((((c * 10 + d) % two64 : Nat) : Int),decide (c * 10 + d < two64),()):=by
  unfold F.za5 O.mul64
  rw [zai] at *
  rw [zd (by omega),za]
  unfold O.add64
  rw [show (c : Int).toNat = c from rfl,show (10 : Int).toNat = 10 from rfl]
  dsimp only
  rw [zd (by omega),za]
  simp only [Int.toNat_natCast,show (0 : Int).toNat = 0 from rfl,Nat.add_zero]
  by_cases h : c * 10 < 18446744073709551616
  · have e1 : ((((c * 10 / 18446744073709551616 : Nat) : Int)) == 0) = true:=by simp; omega
    rw [e1,cond_true]
    have e2 : c * 10 % 18446744073709551616 = c * 10:=Nat.mod_eq_of_lt h
    rw [e2]
    congr 2
    congr 1
    by_cases h2 : c * 10 + d < 18446744073709551616
    · have : (c * 10 + d) / 18446744073709551616 = 0:=Nat.div_eq_of_lt h2
      simp [h2,this]
    · have : ¬ (c * 10 + d) / 18446744073709551616 = 0:=by omega
      have e : ((((c * 10 + d) / 18446744073709551616 : Nat) : Int) == 0) = false:=by simp; omega
      rw [e]; simp [h2]
  · have e1 : ((((c * 10 / 18446744073709551616 : Nat) : Int)) == 0) = false:=by simp; omega
    rw [e1,cond_false]
    have : ¬ c * 10 + d < 18446744073709551616:=by omega
    simp only [this,decide_false]
    congr 2
    omega
theorem zm5 (n : Nat) (X : Type) (k0 : Bool→Int→Int→Bool→Int→Int→Option X) (neg b : Bool) (x y : Int) (c0 : Nat) (h0 : c0 % 10 ≠ 0) : ∀ (z m : Nat) (e : Int),c0 * 10 ^ z < two64→-9223372036854775808 ≤ e→e + z ≤ 9223372036854775807→z < m →
    ∃ j,j ≤ z ∧ F.zj.L3 n k0 m neg ((c0 * 10 ^ z : Nat) : Int) e b x y = k0 neg ((c0 * 10 ^ j : Nat) : Int) (e + z - j) b x y ∧ (j = 0 ∨ 18 ≤ e + z - j) ∧ (e + z - j ≤ 18 ∨ j = z):=by
  intro z
  induction z with
  | zero =>
    intro m e hc he1 he2 hm
    obtain ⟨m,rfl⟩ : ∃ q,m = q + 1:=⟨m - 1,by omega⟩
    refine ⟨0,Nat.le_refl _,?_,Or.inl rfl,Or.inr rfl⟩
    show F.zj.L3.step n _ k0 _ _ _ _ _ _ = _
    unfold F.zj.L3.step
    have e1 : ((((c0 * 10 ^ 0 : Nat) : Int).tmod 10) == 0) = false:=by
      rw [Nat.pow_zero,Nat.mul_one]
      have : ¬ ((c0 : Int).tmod 10) = 0:=by
        rw [show ((c0 : Int).tmod 10) = ((c0 % 10 : Nat) : Int) from rfl]; omega
      simpa using this
    rw [e1,cond_false]
    congr 1
    omega
  | succ z ih =>
    intro m e hc he1 he2 hm
    obtain ⟨m,rfl⟩ : ∃ q,m = q + 1:=⟨m - 1,by omega⟩
    have hstep : F.zj.L3 n k0 (m + 1) neg ((c0 * 10 ^ (z + 1) : Nat) : Int) e b x y = F.zj.L3.step n (F.zj.L3 n k0 m) k0 neg ((c0 * 10 ^ (z + 1) : Nat) : Int) e b x y:=rfl
    have hmul : c0 * 10 ^ (z + 1) = c0 * 10 ^ z * 10:=by rw [Nat.pow_succ,Nat.mul_assoc]
    have e1 : ((((c0 * 10 ^ (z + 1) : Nat) : Int).tmod 10) == 0) = true:=by
      have : ((c0 * 10 ^ (z + 1) : Nat) : Int).tmod 10 = 0:=by
        rw [show (((c0 * 10 ^ (z + 1) : Nat) : Int).tmod 10) = ((c0 * 10 ^ (z + 1) % 10 : Nat) : Int) from rfl]; omega
      simpa using this
    have e2 : ((c0 * 10 ^ (z + 1) : Nat) : Int).tdiv 10 = ((c0 * 10 ^ z : Nat) : Int):=by
      rw [show (((c0 * 10 ^ (z + 1) : Nat) : Int).tdiv 10) = ((c0 * 10 ^ (z + 1) / 10 : Nat) : Int) from rfl]; omega
    rw [hstep]
    unfold F.zj.L3.step
    rw [e1,cond_true]
    by_cases h18 : e < 18
    · rw [zd h18,e2,IntWalk.u64_in _ (by rw [zai] at hc; omega),zl (by omega)]
      obtain ⟨j,j1,j2,j3,j4⟩:=ih m (e + 1) (by omega) (by omega) (by omega) (by omega)
      refine ⟨j,by omega,?_,?_,?_⟩
      · rw [j2]
        congr 1
        omega
      · rcases j3 with j3 | j3
        · exact Or.inl j3
        · exact Or.inr (by omega)
      · rcases j4 with j4 | j4
        · exact Or.inl (by omega)
        · exact Or.inl (by omega)
    · rw [zf h18]
      refine ⟨z + 1,Nat.le_refl _,?_,Or.inr (by omega),Or.inr rfl⟩
      congr 1
      omega
theorem zib (n : Nat) (X : Type) (k2 : Bool→Int→Int→Bool→Int→Int→Option X) (K : Int→Bool→Int→Int→Option X) (neg b : Bool) (x y : Int) : ∀ (m c d : Nat),0 < c→c < two64→two64 ≤ c * 10 ^ m→18 + (d : Int) ≤ 9223372036854775807 →
    F.zj.L5 n k2 (fun q _ _ _ u v w => K q u v w) (m + 1) neg (c : Int) (18 + (d : Int)) b x y = if c * 10 ^ d < two64 then k2 neg ((c * 10 ^ d : Nat) : Int) 18 b x y else K 10 false 0 0:=by
  intro m
  induction m with
  | zero => intro c d h1 h2 h3; rw [Nat.pow_zero,Nat.mul_one] at h3; omega
  | succ m ih =>
    intro c d h1 h2 h3 h4
    have hstep : F.zj.L5 n k2 (fun q _ _ _ u v w => K q u v w) (m + 1 + 1) neg (c : Int) (18 + (d : Int)) b x y = F.zj.L5.step n (F.zj.L5 n k2 (fun q _ _ _ u v w => K q u v w) (m + 1)) k2 (fun q _ _ _ u v w => K q u v w) neg (c : Int) (18 + (d : Int)) b x y:=rfl
    rw [hstep]
    unfold F.zj.L5.step
    cases d with
    | zero =>
      rw [zf (by omega),Nat.pow_zero,Nat.mul_one,if_pos h2]
      rfl
    | succ d =>
      rw [zd (by omega),show (0 : Int) = ((0 : Nat) : Int) from rfl,zj8 n c 0 h2 (by decide),za]
      have hp : c * 10 ≤ c * 10 ^ (d + 1):=by
        rw [Nat.pow_succ,← Nat.mul_assoc]
        have : 0 < 10 ^ d:=Nat.pow_pos (by omega)
        have:=Nat.le_mul_of_pos_right c this
        omega
      by_cases hf : c * 10 + 0 < two64
      · simp only [hf,decide_true,Bool.not_true,cond_false]
        rw [zl (by omega),show (18 + ((d + 1 : Nat) : Int) - 1) = 18 + (d : Int) from by omega,Nat.mod_eq_of_lt hf]
        have:=ih (c * 10 + 0) d (by omega) hf (by rw [Nat.pow_succ] at h3; rw [Nat.add_zero,Nat.mul_assoc,Nat.mul_comm 10]; exact h3) (by omega)
        rw [show ((0 : Nat) : Int) = (0 : Int) from rfl] at *
        rw [this,Nat.add_zero,Nat.mul_assoc,Nat.mul_comm 10,← Nat.pow_succ]
      · have : ¬ c * 10 ^ (d + 1) < two64:=by omega
        simp only [hf,decide_false,Bool.not_false,cond_true]
        rw [if_neg this]
theorem zli (n : Nat) (hn : 100 ≤ n) (neg : Bool) (c0 z : Nat) (h0 : c0 % 10 ≠ 0) (hc : c0 * 10 ^ z < two64) (e : Int) (he : -9223372036854775808 ≤ e ∧ e ≤ 9223372036854775807) :
    F.zj n (neg,((c0 * 10 ^ z : Nat) : Int),e,()) = some (normR neg c0 (e + z)):=by
  have hz : z ≤ 20:=by
    refine Classical.byContradiction fun hh => ?_
    have h1 : 10 ^ 20 ≤ 10 ^ z:=Nat.pow_le_pow_right (by omega) (by omega)
    have h2:=Nat.le_mul_of_pos_left (10 ^ z) (show 0 < c0 by omega)
    rw [zai] at hc
    omega
  have hpos : 0 < c0 * 10 ^ z:=Nat.mul_pos (by omega) (Nat.pow_pos (by omega))
  unfold F.zj
  have e0 : (((c0 * 10 ^ z : Nat) : Int) == 0) = false:=by
    have : ¬ ((c0 * 10 ^ z : Nat) : Int) = 0:=by omega
    simpa using this
  simp only [e0,cond_false]
  by_cases hbig : 9223372036854775807 < e + z
  ·
    have h18 : ¬ e < 18:=by omega
    obtain ⟨m,rfl⟩ : ∃ q,n = q + 1:=⟨n - 1,by omega⟩
    have hs : ∀ (k0 : Bool→Int→Int→Bool→Int→Int→Option DecR),F.zj.L3 (m + 1) k0 (m + 1) neg ((c0 * 10 ^ z : Nat) : Int) e false 0 0 = k0 neg ((c0 * 10 ^ z : Nat) : Int) e false 0 0:=by
      intro k0
      show F.zj.L3.step (m + 1) (F.zj.L3 (m + 1) k0 m) k0 _ _ _ _ _ _ = _
      unfold F.zj.L3.step
      rw [zf h18]
      cases (((c0 * 10 ^ z : Nat) : Int).tmod 10 == 0) <;> rfl
    rw [hs]
    obtain ⟨d,hd⟩ : ∃ d : Nat,e = 18 + (d : Int):=⟨(e - 18).toNat,by omega⟩
    have hfuel : two64 ≤ c0 * 10 ^ z * 10 ^ m:=by
      have h1 : 10 ^ 20 ≤ 10 ^ m:=Nat.pow_le_pow_right (by omega) (by omega)
      have h2:=Nat.le_mul_of_pos_left (10 ^ m) hpos
      rw [zai]
      omega
    rw [hd,zib (m + 1) _ _ (fun q u v w => some ((u,v,w,()),q,())) neg false 0 0 m _ d hpos hc hfuel (by omega)]
    have hnot : ∀ w,20 ≤ w→¬ c0 * 10 ^ w < two64:=by
      intro w hw
      have h1 : 10 ^ 20 ≤ 10 ^ w:=Nat.pow_le_pow_right (by omega) hw
      have h2:=Nat.le_mul_of_pos_left (10 ^ w) (show 0 < c0 by omega)
      rw [zai]
      omega
    unfold normR
    rw [if_neg (show ¬ 18 + (d : Int) + z < -18 by omega),if_neg (by rw [Nat.mul_assoc,← Nat.pow_add]; exact hnot _ (by omega)),if_neg (hnot _ (by omega))]
  · obtain ⟨j,j1,j2,j3,j4⟩:=zm5 n DecR (fun e1_b0_0 e1_b0_1 e1_b0_2 e1_b1_0 e1_b1_1 e1_b1_2 =>
        F.zj.L5 n
          (fun e3_b0_0 e3_b0_1 e3_b0_2 e3_b1_0 e3_b1_1 e3_b1_2 =>
            bif decide (e3_b0_2 < (-18 : Int)) then
              some (((false,(0 : Int),(0 : Int),()),(10 : Int),()))
            else
              some (((e3_b0_0,e3_b0_1,e3_b0_2,()),(0 : Int),())))
          (fun e4_3 e4_b0_0 e4_b0_1 e4_b0_2 e4_b1_0 e4_b1_1 e4_b1_2 =>
            some (((e4_b1_0,e4_b1_1,e4_b1_2,()),e4_3,()))) n e1_b0_0 e1_b0_1 e1_b0_2 e1_b1_0 e1_b1_1 e1_b1_2) neg false 0 0 c0 h0 z n e hc he.1 (by omega) (by omega)
    refine j2.trans ?_
    have hcj : c0 * 10 ^ j < two64:=by
      have h1 : 10 ^ j ≤ 10 ^ z:=Nat.pow_le_pow_right (by omega) j1
      have:=Nat.mul_le_mul_left c0 h1
      omega
    have hposj : 0 < c0 * 10 ^ j:=Nat.mul_pos (by omega) (Nat.pow_pos (by omega))
    obtain ⟨m,rfl⟩ : ∃ q,n = q + 1:=⟨n - 1,by omega⟩
    by_cases hE : 18 ≤ e + z - j
    · obtain ⟨d,hd⟩ : ∃ d : Nat,e + z - j = 18 + (d : Int):=⟨(e + z - j - 18).toNat,by omega⟩
      have hfuel : two64 ≤ c0 * 10 ^ j * 10 ^ m:=by
        have h1 : 10 ^ 20 ≤ 10 ^ m:=Nat.pow_le_pow_right (by omega) (by omega)
        have h2:=Nat.le_mul_of_pos_left (10 ^ m) hposj
        rw [zai]
        omega
      show F.zj.L5 (m + 1) _ _ (m + 1) neg _ (e + z - j) false 0 0 = _
      rw [hd,zib (m + 1) _ _ (fun q u v w => some ((u,v,w,()),q,())) neg false 0 0 m _ d hposj hcj hfuel (by omega)]
      unfold normR
      rw [if_neg (show ¬ e + z < -18 by omega),Nat.mul_assoc,← Nat.pow_add,show j + d = (e + z - 18).toNat from by omega]
      by_cases hf : c0 * 10 ^ (e + z - 18).toNat < two64
      · rw [if_pos hf,if_pos hf,zf (by omega)]
        congr 3
        by_cases hh : e + z ≤ 18
        · rw [if_pos hh,show e + (z : Int) = 18 from by omega]
        · rw [if_neg hh]
      · rw [if_neg hf,if_neg hf]
    · have hj0 : j = 0:=by omega
      subst hj0
      have hlow : ∀ (k2 : Bool→Int→Int→Bool→Int→Int→Option DecR) (kr : Int→Bool→Int→Int→Bool→Int→Int→Option DecR) (c : Int) (E : Int),¬ E > 18→F.zj.L5 (m + 1) k2 kr (m + 1) neg c E false 0 0 = k2 neg c E false 0 0:=by
        intro k2 kr c E hE
        show F.zj.L5.step (m + 1) (F.zj.L5 (m + 1) k2 kr m) k2 kr neg c E false 0 0 = _
        unfold F.zj.L5.step
        rw [zf hE]
      rw [hlow _ _ _ _ (by omega)]
      unfold normR
      rw [Nat.pow_zero,Nat.mul_one,show (e + (z : Int) - 18).toNat = 0 from by omega,Nat.pow_zero,Nat.mul_one,show (e + (z : Int) - ((0 : Nat) : Int)) = e + z from by omega]
      by_cases h18 : e + z < -18
      · rw [zd h18,if_pos h18]
      · rw [zf h18,if_neg h18,if_pos (by rw [Nat.pow_zero,Nat.mul_one] at hcj; exact hcj),if_pos (by omega)]
theorem zic (n : Nat) (hn : 100 ≤ n) (neg : Bool) (c : Nat) (hc : c < two64) (e : Int) (he : -9223372036854775808 ≤ e ∧ e ≤ 9223372036854775807) : F.zj n (neg,(c : Int),e,()) = some (valR neg (Lib.decDigits c) e):=by
  by_cases h : c = 0
  · subst h
    unfold valR
    rw [if_pos (zdd 0)]
    rfl
  · obtain ⟨c0,z,h1,h2⟩:=zc1 c (by omega)
    rw [zaq (zdc c) h2 (by rw [zdd]; exact h1)]
    rw [h1] at hc ⊢
    exact zli n hn neg c0 z h2 hc e he
end Go.AM
set_option linter.unusedVariables false
set_option linter.unusedSimpArgs false
namespace Go.AM
def lz (d : List UInt8) : List UInt8:=d.dropWhile (· == 48)
theorem zj9 (d : List UInt8) : d = List.replicate (d.length - (lz d).length) 48 ++ lz d:=by
  induction d with
  | nil => rfl
  | cons b d ih =>
    unfold lz at ih ⊢
    by_cases h : b = 48
    · subst h
      have e : ((48 : UInt8) :: d).dropWhile (· == 48) = d.dropWhile (· == 48):=by simp [List.dropWhile_cons]
      have hl : (d.dropWhile (· == 48)).length ≤ d.length:=(List.dropWhile_sublist _).length_le
      rw [e,List.length_cons,show d.length + 1 - (d.dropWhile (· == 48)).length = (d.length - (d.dropWhile (· == 48)).length) + 1 from by omega,List.replicate_succ,List.cons_append,← ih]
    · have e : (b :: d).dropWhile (· == 48) = b :: d:=by simp [List.dropWhile_cons,h]
      rw [e]
      simp
theorem zmd {d : List UInt8} {x : UInt8} (h : (lz d).head? = some x) : x ≠ 48:=by
  have:=List.head?_dropWhile_not (p:=fun b : UInt8 => b == 48) (l:=d)
  unfold lz at h
  rw [h] at this
  simpa using this
theorem zer (d : List UInt8) : val (lz d) = val d:=by
  conv => rhs; rw [zj9 d]
  rw [zhb]
theorem ze5 {d : List UInt8} (h : Digs d) : Digs (lz d):=by
  rw [zj9 d,z7] at h
  exact h.2
theorem zso (d : List UInt8) : (lz d).length ≤ d.length:=(List.dropWhile_sublist _).length_le
theorem zm6 (x : UInt8) : ((x.toNat : Int) == 48) = decide (x = 48):=by
  by_cases h : x = 48
  · subst h; rfl
  · have : ¬ (x.toNat : Int) = 48:=fun hh => h (zbc (by simp; omega))
    rw [beq_eq_false_iff_ne.2 this,decide_eq_false h]
theorem zrr (a : List UInt8) (j : Nat) : idx (a ++ List.replicate (j + 1) (48 : UInt8)) (((a ++ List.replicate (j + 1) (48 : UInt8)).length : Int) - 1) = some 48 ∧ sub (a ++ List.replicate (j + 1) (48 : UInt8)) 0 (((a ++ List.replicate (j + 1) (48 : UInt8)).length : Int) - 1) = some (a ++ List.replicate j 48):=by
  rw [List.replicate_succ',← List.append_assoc]
  have hlen : (a ++ List.replicate j (48 : UInt8) ++ [48]).length = a.length + j + 1:=by simp; omega
  refine ⟨?_,?_⟩
  · rw [zj4 (by omega),← List.getLast?_eq_getElem?]; simp
  · have:=zq (a ++ List.replicate j (48 : UInt8) ++ [48]) 0 (a.length + j) (by omega) (by rw [hlen]; omega)
    rw [hlen,show (((a.length + j + 1 : Nat) : Int) - 1) = ((a.length + j : Nat) : Int) from by omega]
    refine this.trans ?_
    rw [List.drop_zero,List.take_append_of_le_length (by simp),List.take_of_length_le (by simp)]
theorem zrs {a : List UInt8} (ha : a ≠ []) (hl : ∀ x,a.getLast? = some x→x ≠ 48) : ∃ x,idx a ((a.length : Int) - 1) = some x ∧ x ≠ 48:=by
  have hp : 0 < a.length:=List.length_pos_iff.2 ha
  rw [zj4 hp,← List.getLast?_eq_getElem?]
  cases e : a.getLast? with
  | none => simp at e; exact absurd e ha
  | some x => exact ⟨x,rfl,hl x e⟩
theorem zo8 {d : List UInt8} (hd : Digs d) (hne : d ≠ []) (hh : ∀ x,d.head? = some x→x ≠ 48) : 10 ^ (d.length - 1) ≤ val d:=by
  cases d with
  | nil => exact absurd rfl hne
  | cons b d =>
    obtain ⟨h1,h2⟩:=zw.1 hd
    have h0 : dv b ≠ 0:=fun h0 => hh b rfl (zeq h1 (b:=48) rfl h0)
    rw [zah]
    have:=Nat.le_mul_of_pos_left (10 ^ d.length) (show 0 < dv b by omega)
    simp
    omega
end Go.AM
set_option linter.unusedVariables false
set_option linter.unusedSimpArgs false
namespace Go.AM
abbrev FaultR:=Int × Int × Unit
abbrev ParseR:=DecD × FaultR × Unit
theorem za5 (n : Nat) (s : List UInt8) (c : UInt8) : F.zai n s [c] = some (decide (s.head? = some c)):=by
  unfold F.zai F.zal
  cases s with
  | nil => rfl
  | cons b s =>
    have e : sub (b :: s) (0 : Int) ((([c] : List UInt8).length : Nat) : Int) = some [b]:=zq (b :: s) 0 1 (by omega) (by simp)
    rw [zd (by simp; omega),e,za,za]
    by_cases h : b = c
    · subst h; simp
    · simp [h]
def tw (s : List UInt8) : List UInt8:=s.takeWhile isDig
theorem zbm (s : List UInt8) : Digs (tw s):=List.all_takeWhile
theorem zka (s : List UInt8) : s = tw s ++ s.drop (tw s).length:=by
  induction s with
  | nil => rfl
  | cons b s ih =>
    unfold tw at ih ⊢
    by_cases h : isDig b = true
    · simp only [List.takeWhile_cons,h,if_true,List.length_cons,List.drop_succ_cons,List.cons_append]
      rw [← ih]
    · simp [List.takeWhile_cons,h]
theorem ze6 (s : List UInt8) : (tw s).length ≤ s.length:=(List.takeWhile_sublist _).length_le
theorem zfm (n : Nat) (X : Type) (k0 : Int→(List UInt8)→Int→Int→Int→Option X) (v3 b0 b1 : Int) (s : List UInt8) (hs : s.length < 4611686018427387904) : ∀ (r : List UInt8) (k m : Nat),s.drop k = r→k ≤ s.length→r.length < m →
    F.zad.L2_dec_look_1 n k0 m v3 s b0 b1 (k : Int) = k0 v3 s b0 b1 ((k + (tw r).length : Nat) : Int):=by
  intro r
  induction r with
  | nil =>
    intro k m hk hkl hm
    have:=zo hk
    obtain ⟨m,rfl⟩ : ∃ q,m = q + 1:=⟨m - 1,by omega⟩
    show F.zad.L2_dec_look_1.step n _ k0 _ _ _ _ _ = _
    unfold F.zad.L2_dec_look_1.step
    rw [zf (by omega)]
    rfl
  | cons x r ih =>
    intro k m hk hkl hm
    obtain ⟨h1,h2,h3⟩:=zn hk
    obtain ⟨m,rfl⟩ : ∃ q,m = q + 1:=⟨m - 1,by omega⟩
    show F.zad.L2_dec_look_1.step n (F.zad.L2_dec_look_1 n k0 m) k0 _ _ _ _ _ = _
    unfold F.zad.L2_dec_look_1.step
    rw [zd (by omega),zp,h2,za,za]
    unfold tw at ih ⊢
    by_cases hd : isDig x = true
    · have hx:=zab.1 hd
      rw [zd (by omega),zd (by omega),zj (by omega),ih (k + 1) m h3 (by omega) (by simp at hm; omega)]
      simp only [List.takeWhile_cons,hd,if_true,List.length_cons]
      congr 2
      omega
    · simp only [List.takeWhile_cons,hd,if_false]
      by_cases h48 : 48 ≤ x.toNat
      · have : ¬ x.toNat ≤ 57:=fun h => hd (zab.2 ⟨h48,h⟩)
        rw [zd (by omega),zf (by omega)]
        rfl
      · rw [zf (by omega)]
        rfl
def p0 (s : List UInt8) : Nat:=if s.head? = some 45 then 1 else 0
def p1q (q : Nat) (s : List UInt8) : Nat:=q + (tw (s.drop q)).length
def p3q (q : Nat) (s : List UInt8) : Nat:=p1q q s + 1 + (tw (s.drop (p1q q s + 1))).length
theorem zm7 (s : List UInt8) : p0 s ≤ s.length:=by
  unfold p0
  cases s with
  | nil => simp
  | cons b s => split <;> simp
theorem zm8 {q : Nat} {s : List UInt8} (hq : q ≤ s.length) : p1q q s ≤ s.length:=by
  have h2:=ze6 (s.drop q)
  simp at h2
  unfold p1q
  omega
theorem zme {s : List UInt8} {k : Nat} {x : UInt8} (h : (s.drop k).head? = some x) : k < s.length:=by
  cases e : s.drop k with
  | nil => rw [e] at h; simp at h
  | cons b r =>
    have:=congrArg List.length e
    simp at this
    omega
theorem zuw {q : Nat} {s : List UInt8} (h : (s.drop (p1q q s)).head? = some 46) : p3q q s ≤ s.length:=by
  have h1:=zme h
  have h2:=ze6 (s.drop (p1q q s + 1))
  simp at h2
  unfold p3q
  omega
def endR (right : Prop) [Decidable right] (at' : Nat) (len : Nat) : FaultR:=
  if right ∧ at' = len then (0,0,()) else if at' = len then (11,(at' : Int),()) else (14,(at' : Int),())
def lookQ (q : Nat) (s : List UInt8) : FaultR:=
  if q < p1q q s ∧ (s.drop (p1q q s)).head? = some 46 then endR (p1q q s + 1 < p3q q s) (p3q q s) s.length else endR (q < p1q q s) (p1q q s) s.length
def lookR (s : List UInt8) : FaultR:=lookQ (p0 s) s
theorem zo9 (a b : Nat) (at' len : Nat) : (bif decide ((at' : Int) > (a : Int)) then
      bif (at' : Int) == (len : Int) then some (((0 : Int),(0 : Int),())) else bif (at' : Int) == (len : Int) then some (((11 : Int),(at' : Int),())) else some (((14 : Int),(at' : Int),()))
    else bif (at' : Int) == (len : Int) then some (((11 : Int),(at' : Int),())) else some (((14 : Int),(at' : Int),()))) = some (endR (a < at') at' len):=by
  unfold endR
  by_cases h1 : at' = len
  · have e : ((at' : Int) == (len : Int)) = true:=by simp [h1]
    rw [e]
    by_cases h2 : a < at'
    · rw [zd (by omega),if_pos ⟨h2,h1⟩]; rfl
    · rw [zf (by omega),if_neg (fun h => h2 h.1),if_pos h1]; rfl
  · have e : ((at' : Int) == (len : Int)) = false:=by
      have : ¬ (at' : Int) = (len : Int):=by omega
      simpa using this
    rw [e,if_neg (fun h => h1 h.2),if_neg h1]
    simp only [cond_false]
    cases decide ((at' : Int) > (a : Int)) <;> rfl
theorem zid (n : Nat) (s : List UInt8) (hs : s.length < 4000000000000000000) (hn : s.length < n) (q : Nat) (hq : q ≤ s.length) :
    F.zad.L2_dec_look_1 n
        (fun e4_3 e4_b0_0 e4_b1_0 e4_b1_1 e4_b2_0 =>
          bif decide (e4_b2_0 > e4_3) then
            (sub e4_b0_0 e4_b2_0 (e4_b0_0.length : Int)).bind fun x5 =>
              (F.zai n x5 ([46])).bind fun y6 =>
                bif y6 then
                  F.zad.L2_dec_look_1 n
                    (fun e7_3 e7_b0_0 e7_b1_0 e7_b1_1 e7_b2_0 =>
                      bif decide (e7_b2_0 > e7_3) then
                        bif e7_b2_0 == (e7_b0_0.length : Int) then
                          some (((0 : Int),(0 : Int),()))
                        else
                        bif e7_b2_0 == (e7_b0_0.length : Int) then
                          some (((11 : Int),e7_b2_0,()))
                        else
                          some (((14 : Int),e7_b2_0,()))
                      else
                      bif e7_b2_0 == (e7_b0_0.length : Int) then
                        some (((11 : Int),e7_b2_0,()))
                      else
                        some (((14 : Int),e7_b2_0,()))) n (IntKind.wrap .i64 (e4_b2_0 + (1 : Int))) e4_b0_0 e4_b1_0 e4_b1_1 (IntKind.wrap .i64 (e4_b2_0 + (1 : Int)))
                else
                bif decide (e4_b2_0 > e4_3) then
                  bif e4_b2_0 == (e4_b0_0.length : Int) then
                    some (((0 : Int),(0 : Int),()))
                  else
                  bif e4_b2_0 == (e4_b0_0.length : Int) then
                    some (((11 : Int),e4_b2_0,()))
                  else
                    some (((14 : Int),e4_b2_0,()))
                else
                bif e4_b2_0 == (e4_b0_0.length : Int) then
                  some (((11 : Int),e4_b2_0,()))
                else
                  some (((14 : Int),e4_b2_0,()))
          else
          bif decide (e4_b2_0 > e4_3) then
            bif e4_b2_0 == (e4_b0_0.length : Int) then
              some (((0 : Int),(0 : Int),()))
            else
            bif e4_b2_0 == (e4_b0_0.length : Int) then
              some (((11 : Int),e4_b2_0,()))
            else
              some (((14 : Int),e4_b2_0,()))
          else
          bif e4_b2_0 == (e4_b0_0.length : Int) then
            some (((11 : Int),e4_b2_0,()))
          else
            some (((14 : Int),e4_b2_0,()))) n (q : Int) s (0 : Int) (0 : Int) (q : Int)
    = some (lookQ q s):=by
  rw [zfm n _ _ _ _ _ s (by omega) (s.drop q) q n rfl hq (by simp; omega)]
  have hkl : p1q q s ≤ s.length:=zm8 hq
  show (bif decide (((p1q q s : Nat) : Int) > (q : Int)) then _ else _) = _
  unfold lookQ
  have hk3 : p3q q s = p1q q s + 1 + (tw (s.drop (p1q q s + 1))).length:=rfl
  have hsh : q + (tw (s.drop q)).length = p1q q s:=rfl
  simp only [hsh]
  generalize p3q q s = k3 at hk3 ⊢
  clear hsh
  generalize p1q q s = k at hkl hk3 ⊢
  subst hk3
  have hE:=zo9 q 0 k s.length
  rw [hE]
  by_cases h1 : q < k
  · rw [zd (by omega)]
    have hsub : sub s (k : Int) (s.length : Int) = some (s.drop k):=by
      have:=zq s k s.length hkl (Nat.le_refl _)
      rw [List.take_length] at this
      exact this
    rw [hsub,za,za5,za]
    by_cases h2 : (s.drop k).head? = some 46
    · have hlt : k < s.length:=by
        cases e : s.drop k with
        | nil => rw [e] at h2; simp at h2
        | cons b r =>
          have:=congrArg List.length e
          simp at this
          omega
      rw [decide_eq_true h2,cond_true,if_pos ⟨h1,h2⟩,zj (by omega),zfm n _ _ _ _ _ s (by omega) (s.drop (k + 1)) (k + 1) n rfl (by omega) (by simp; omega)]
      exact zo9 (k + 1) 0 _ s.length
    · rw [decide_eq_false h2,cond_false,if_neg (fun h => h2 h.2)]
  · rw [zf (by omega),if_neg (fun h => h1 h.1)]
theorem zt4 (n : Nat) (s : List UInt8) (hs : s.length < 4000000000000000000) (hn : s.length < n) : F.zad n s = some (lookR s):=by
  unfold F.zad
  rw [za5,za]
  by_cases h : s.head? = some 45
  · have hp : p0 s = 1:=by unfold p0; rw [if_pos h]
    rw [decide_eq_true h,cond_true]
    have hq : 1 ≤ s.length:=by have:=zm7 s; omega
    have:=zid n s hs hn 1 hq
    refine this.trans ?_
    unfold lookR
    rw [hp]
  · have hp : p0 s = 0:=by unfold p0; rw [if_neg h]
    rw [decide_eq_false h,cond_false]
    have:=zid n s hs hn 0 (by omega)
    refine this.trans ?_
    unfold lookR
    rw [hp]
end Go.AM
set_option linter.unusedVariables false
set_option linter.unusedSimpArgs false
namespace Go.AM
def outR (r : DecR) : ParseR:=if r.2.1 = 0 then (r.1,(0,0,()),()) else ((false,0,0,()),(r.2.1,0,()),())
def badR (f : FaultR) : ParseR:=((false,0,0,()),f,())
def aheadD (s : List UInt8) : List UInt8:=tw (s.drop (p0 s))
def behindD (s : List UInt8) : List UInt8:=if (s.drop (p1q (p0 s) s)).head? = some 46 then tw (s.drop (p1q (p0 s) s + 1)) else []
def negD (s : List UInt8) : Bool:=decide (s.head? = some 45)
def parseR (s : List UInt8) : ParseR:=
  if (lookR s).1 = 0 then outR (valR (negD s) (aheadD s ++ behindD s) (-((behindD s).length : Int))) else badR (lookR s)
theorem zie (neg : Bool) (d : List UInt8) (e : Int) : (valR neg d e).2.1 = 0 ∨ (valR neg d e).2.1 = 10 ∧ (valR neg d e).1 = (false,0,0,()):=by
  unfold valR zeroD normR
  by_cases h : val d = 0
  · rw [if_pos h]; exact Or.inl rfl
  · rw [if_neg h]
    split
    · exact Or.inr ⟨rfl,rfl⟩
    · split
      · exact Or.inl rfl
      · exact Or.inr ⟨rfl,rfl⟩
theorem zif {d d' : List UInt8} (hd : Digs d) (hd' : Digs d') (h : val d = val d') (neg : Bool) (e : Int) : valR neg d e = valR neg d' e:=by
  by_cases h0 : val d = 0
  · unfold valR
    rw [if_pos h0,if_pos (h ▸ h0)]
  · obtain ⟨c0,z,h1,h2⟩:=zc1 (val d) (by omega)
    rw [zaq hd h2 h1,zaq hd' h2 (h ▸ h1)]
theorem zrt {d : List UInt8} (hd : Digs d) (h : two64 ≤ val d) (ht : trz d = d) (neg : Bool) (e : Int) : valR neg d e = ((false,0,0,()),10,()):=by
  have h0 : val d ≠ 0:=by rw [zai] at h; omega
  have hc:=zf1 hd h0
  rw [ht] at hc
  rw [zaq hd hc (z:=0) (by simp)]
  unfold normR
  split
  · rfl
  · rw [if_neg]
    have:=Nat.le_mul_of_pos_right (val d) (Nat.pow_pos (n:=(e + ((0 : Nat) : Int) - 18).toNat) (show 0 < 10 by omega))
    omega
end Go.AM
set_option linter.unusedVariables false
set_option linter.unusedSimpArgs false
namespace Go.AM
theorem zpa (n : Nat) (X : Type) (k0 : Bool→Int→Int→Int→Int→Int→Int→Bool→Int→Int→Option X) (s : List UInt8) (hs : s.length < 4611686018427387904) (b : Bool) (x1 x2 x3 x4 x5 x6 : Int) (neg : Bool) (E : Int) : ∀ (r : List UInt8) (k m : Nat),s.drop k = r→k ≤ s.length→r.length < m→Digs r→val (s.take k) < two64 →
    F.z7.L14 n k0 m s (s.length : Int) (k : Int) b x1 x2 x3 x4 x5 x6 neg (val (s.take k) : Int) E = if val s < two64 then k0 b x1 x2 x3 x4 x5 x6 neg (val s) E else k0 b x1 x2 x3 x4 x5 x6 neg 1 (-19):=by
  intro r
  induction r with
  | nil =>
    intro k m hk hkl hm hd hv
    have hk:=zo hk
    obtain ⟨m,rfl⟩ : ∃ q,m = q + 1:=⟨m - 1,by omega⟩
    show F.z7.L14.step n _ k0 _ _ _ _ _ _ _ _ _ _ _ _ _ = _
    unfold F.z7.L14.step
    rw [List.take_of_length_le hk] at hv ⊢
    rw [zf (by omega),if_pos hv]
  | cons x r ih =>
    intro k m hk hkl hm hd hv
    obtain ⟨h1,h2,h3⟩:=zn hk
    obtain ⟨d1,d2⟩:=zw.1 hd
    have hx:=zab.1 d1
    obtain ⟨m,rfl⟩ : ∃ q,m = q + 1:=⟨m - 1,by omega⟩
    show F.z7.L14.step n (F.z7.L14 n k0 m) k0 _ _ _ _ _ _ _ _ _ _ _ _ _ = _
    unfold F.z7.L14.step
    have htk : s.take (k + 1) = s.take k ++ [x]:=by rw [List.take_add_one,h2]; rfl
    have hvk : val (s.take (k + 1)) = val (s.take k) * 10 + dv x:=by rw [htk,zby]
    have hsv : val (s.take (k + 1)) ≤ val s:=by
      have e : s = s.take (k + 1) ++ s.drop (k + 1):=(List.take_append_drop _ _).symm
      have h5 : val s = val (s.take (k + 1)) * 10 ^ (s.drop (k + 1)).length + val (s.drop (k + 1)):=by
        conv => lhs; rw [e]
        rw [zbf]
      have:=Nat.le_mul_of_pos_right (val (s.take (k + 1))) (Nat.pow_pos (n:=(s.drop (k + 1)).length) (show 0 < 10 by omega))
      omega
    have hdl:=ze4 d1
    have hdx : IntKind.wrap .u64 (IntKind.wrap .u8 ((x.toNat : Int) - 48)) = (dv x : Int):=by
      have h8 : IntKind.wrap .u8 ((x.toNat : Int) - 48) = (x.toNat : Int) - 48:=IntWalk.u8_in _ (by omega)
      rw [h8,IntWalk.u64_in _ (by omega)]; unfold dv; omega
    rw [zd (by omega),zp,h2,za,hdx,zj8 n _ _ hv (by rw [zai]; omega),za,← hvk,zj (by omega)]
    by_cases hf : val (s.take (k + 1)) < two64
    · simp only [hf,decide_true,Bool.not_true,cond_false,Nat.mod_eq_of_lt hf]
      exact ih (k + 1) m h3 (by omega) (by simp at hm; omega) d2 hf
    · simp only [hf,decide_false,Bool.not_false,cond_true]
      rw [if_neg (by omega)]
theorem zit (n : Nat) (s : List UInt8) : F.zaj n s [45] = some (s.drop (p0 s),negD s,()):=by
  unfold F.zaj F.zar
  have hp : F.zal n s [45] = some (decide (s.head? = some 45)):=by
    have:=za5 n s 45
    unfold F.zai at this
    cases e : F.zal n s [45] with
    | none => rw [e] at this; cases this
    | some b => rw [e] at this; exact this
  rw [hp,za]
  unfold p0 negD
  by_cases h : s.head? = some 45
  · have hl : 1 ≤ s.length:=by cases s with | nil => simp at h | cons => simp
    have hsub : sub s ((([45] : List UInt8).length : Nat) : Int) (s.length : Int) = some (s.drop 1):=by
      have:=zq s 1 s.length hl (Nat.le_refl _)
      rw [List.take_length] at this
      exact this
    rw [decide_eq_true h,Bool.not_true,cond_false,hsub,if_pos h]
    rfl
  · rw [decide_eq_false h,Bool.not_false,cond_true,if_neg h]
    rfl
theorem zlj {a t : List UInt8} (ha : Digs a) : Lib.indexByte (a ++ 46 :: t) 46 = (a.length : Int):=by
  induction a with
  | nil => simp [Lib.indexByte]
  | cons b a ih =>
    obtain ⟨h1,h2⟩:=zw.1 ha
    have hb : ¬ b = 46:=fun h => by subst h; simp [isDig] at h1
    have:=ih h2
    simp only [List.cons_append,Lib.indexByte,beq_iff_eq,hb,if_false,this]
    have hne : ¬ (a.length : Int) = -1:=by omega
    simp [hne]
theorem zm9 {a : List UInt8} (ha : Digs a) : Lib.indexByte a 46 = -1:=by
  induction a with
  | nil => rfl
  | cons b a ih =>
    obtain ⟨h1,h2⟩:=zw.1 ha
    have hb : ¬ b = 46:=fun h => by subst h; simp [isDig] at h1
    simp [Lib.indexByte,hb,ih h2]
theorem zmf {s : List UInt8} (h : (lookR s).1 = 0) : lookR s = (0,0,()) ∧ aheadD s ≠ [] ∧
    ((s.drop (p0 s) = aheadD s ∧ behindD s = []) ∨ (s.drop (p0 s) = aheadD s ++ 46 :: behindD s ∧ behindD s ≠ [])):=by
  unfold lookR lookQ at h ⊢
  have split:=zka (s.drop (p0 s))
  rw [List.drop_drop] at split
  have hle:=zm8 (zm7 s)
  by_cases hp : p0 s < p1q (p0 s) s ∧ (s.drop (p1q (p0 s) s)).head? = some 46
  · rw [if_pos hp] at h ⊢
    unfold endR at h ⊢
    by_cases h3 : p1q (p0 s) s + 1 < p3q (p0 s) s ∧ p3q (p0 s) s = s.length
    · rw [if_pos h3]
      refine ⟨rfl,?_,Or.inr ?_⟩
      · intro hh
        have : (tw (s.drop (p0 s))).length = 0:=by unfold aheadD at hh; rw [hh]; rfl
        have:=hp.1
        unfold p1q at this
        omega
      · have hb : behindD s = tw (s.drop (p1q (p0 s) s + 1)):=by unfold behindD; rw [if_pos hp.2]
        have h2:=zka (s.drop (p1q (p0 s) s + 1))
        rw [List.drop_drop] at h2
        have h4 : s.drop (p1q (p0 s) s + 1 + (tw (s.drop (p1q (p0 s) s + 1))).length) = []:=List.drop_eq_nil_of_le (by
          have h5:=h3.2
          unfold p3q at h5
          omega)
        rw [h4,List.append_nil] at h2
        have h5 : s.drop (p1q (p0 s) s) = 46 :: s.drop (p1q (p0 s) s + 1):=by
          cases e : s.drop (p1q (p0 s) s) with
          | nil => rw [e] at hp; simp at hp
          | cons c r =>
            rw [e] at hp
            have hc : c = 46:=by simpa using hp.2
            subst hc
            obtain ⟨_,_,g3⟩:=zn e
            rw [g3]
        refine ⟨?_,?_⟩
        · rw [split]
          have : s.drop (p0 s + (tw (s.drop (p0 s))).length) = s.drop (p1q (p0 s) s):=rfl
          rw [this,h5,hb,← h2]
          rfl
        · rw [hb]
          intro hh
          have h6:=h3.1
          unfold p3q at h6
          rw [hh] at h6
          simp at h6
    · rw [if_neg h3] at h
      split at h <;> cases h
  · rw [if_neg hp] at h ⊢
    unfold endR at h ⊢
    by_cases h3 : p0 s < p1q (p0 s) s ∧ p1q (p0 s) s = s.length
    · rw [if_pos h3]
      have hd : s.drop (p1q (p0 s) s) = []:=List.drop_eq_nil_of_le (by omega)
      refine ⟨rfl,?_,Or.inl ⟨?_,?_⟩⟩
      · intro hh
        have : (tw (s.drop (p0 s))).length = 0:=by unfold aheadD at hh; rw [hh]; rfl
        have:=h3.1
        unfold p1q at this
        omega
      · have : s.drop (p0 s + (tw (s.drop (p0 s))).length) = s.drop (p1q (p0 s) s):=rfl
        rw [this,hd,List.append_nil] at split
        exact split
      · unfold behindD
        rw [hd]
        simp
    · rw [if_neg h3] at h
      split at h <;> cases h
theorem zfn (s : List UInt8) : Digs (behindD s):=by
  unfold behindD
  split
  · exact zbm _
  · rfl
theorem zpb (n : Nat) {s : List UInt8} (hs : s.length ≤ 10000) (h : (lookR s).1 = 0) : ∃ f,F.zah n (s.drop (p0 s)) [46] = some (aheadD s,behindD s,f,()):=by
  obtain ⟨_,_,h3⟩:=zmf h
  unfold F.zah F.zaz O.index1
  rcases h3 with ⟨a,b⟩ | ⟨a,b⟩
  · have hi : Lib.indexByte (aheadD s) 46 = -1:=zm9 (zbm _)
    rw [a,b]
    simp only [za]
    rw [hi]
    exact ⟨false,rfl⟩
  · have hl : (aheadD s ++ 46 :: behindD s).length ≤ 10000:=by rw [← a]; simp; omega
    have hl2 : (aheadD s).length + ((behindD s).length + 1) ≤ 10000:=by simpa using hl
    have hi : Lib.indexByte (aheadD s ++ 46 :: behindD s) 46 = ((aheadD s).length : Int):=zlj (zbm _)
    rw [a]
    simp only [za]
    rw [hi]
    have s1 : sub (aheadD s ++ 46 :: behindD s) 0 ((aheadD s).length : Int) = some (aheadD s):=by
      have:=zq (aheadD s ++ 46 :: behindD s) 0 (aheadD s).length (by omega) (by simp)
      rw [List.drop_zero,List.take_left'] at this
      · exact this
      · rfl
    have hdr : (aheadD s ++ 46 :: behindD s).drop ((aheadD s).length + 1) = behindD s:=by
      rw [List.drop_append,List.drop_eq_nil_of_le (by omega),List.nil_append,show (aheadD s).length + 1 - (aheadD s).length = 1 from by omega]
      rfl
    have s2 : sub (aheadD s ++ 46 :: behindD s) (((aheadD s).length + 1 : Nat) : Int) ((aheadD s ++ 46 :: behindD s).length : Int) = some (behindD s):=by
      have:=zq (aheadD s ++ 46 :: behindD s) ((aheadD s).length + 1) (aheadD s ++ 46 :: behindD s).length (by simp) (Nat.le_refl _)
      rw [List.take_length,hdr] at this
      exact this
    have hw : IntKind.wrap .i64 (((aheadD s).length : Int) + ((([46] : List UInt8).length : Nat) : Int)) = (((aheadD s).length + 1 : Nat) : Int):=zj (by omega)
    rw [zd (by omega),s1,za,hw,s2]
    exact ⟨true,rfl⟩
theorem zkb (n : Nat) {s : List UInt8} (h : s.length ≤ 10000) : O.trimR n s [48] = some (trz s):=by
  unfold O.trimR
  have hb : (Nat.blt (48 : UInt8).toNat 128 && Nat.ble s.length big47) = true:=by
    rw [Bool.and_eq_true,Nat.ble_eq]
    exact ⟨rfl,by unfold big47; omega⟩
  simp only [hb,cond_true,zo7]
theorem zru (n : Nat) {s : List UInt8} (h : s.length ≤ 10000) : O.trimL n s [48] = some (lz s):=by
  unfold O.trimL
  have hb : (Nat.blt (48 : UInt8).toNat 128 && Nat.ble s.length big47) = true:=by
    rw [Bool.and_eq_true,Nat.ble_eq]
    exact ⟨rfl,by unfold big47; omega⟩
  simp only [hb,cond_true]
  rfl
theorem zt5 (d : List UInt8) : trz (trz d) = trz d:=zj6 (fun x hx => zcp hx)
theorem zt6 (neg : Bool) {d : List UInt8} (hd : Digs d) (e : Int) : valR neg (lz d) e = valR neg d e:=zif (ze5 hd) hd (zer d) neg e
theorem zf2 (n : Nat) (hn : 200000 ≤ n) (neg : Bool) (d : List UInt8) (hd : Digs d) (hl : d.length ≤ 10000) (E : Int) (hE : -100000 ≤ E ∧ E ≤ 100000) (ht : trz d = d) (x1 x2 x3 x4 x5 x6 : Int) :
    F.z7.L14 n
                        (fun e9_b0_0 e9_b0_1 e9_b0_2 e9_b1_0 e9_b1_1 e9_b2_0 e9_b2_1 e9_b3_0 e9_b3_1 e9_b3_2 =>
                          (F.zj n (e9_b3_0,e9_b3_1,e9_b3_2,())).bind fun y10 =>
                            bif !(y10.2.1 == (0 : Int)) then
                              some (((false,(0 : Int),(0 : Int),()),(y10.2.1,(0 : Int),()),()))
                            else
                              some (((y10.1.1,y10.1.2.1,y10.1.2.2.1,()),((0 : Int),(0 : Int),()),()))) n d (d.length : Int) (0 : Int) false x1 x2 x3 x4 x5 x6 neg (0 : Int) E
    = some (outR (valR neg d E)):=by
  refine (zpa n _ _ d (by omega) false x1 x2 x3 x4 x5 x6 neg E d 0 n rfl (by omega) (by omega) hd (by rw [List.take_zero,zci,zai]; omega)).trans ?_
  have out : ∀ r : DecR,(r.2.1 = 0 ∨ r.2.1 = 10 ∧ r.1 = (false,0,0,()))→((some r).bind fun y10 =>
                            bif !(y10.2.1 == (0 : Int)) then
                              some (((false,(0 : Int),(0 : Int),()),(y10.2.1,(0 : Int),()),()))
                            else
                              some (((y10.1.1,y10.1.2.1,y10.1.2.2.1,()),((0 : Int),(0 : Int),()),()))) = some (outR r):=by
    intro r hr
    rw [za]
    unfold outR
    rcases hr with h | ⟨h1,h2⟩
    · rw [h,if_pos rfl]; rfl
    · rw [h1,if_neg (by decide)]; rfl
  by_cases hv : val d < two64
  · rw [if_pos hv,zic n (by omega) neg _ hv E (by omega),zif (zdc _) hd (zdd _)]
    exact out _ (zie neg d E)
  · have h19:=zic n (by omega) neg 1 (by decide) (-19) (by omega)
    have hb:=zrt hd (by omega) ht neg E
    rw [if_neg hv,show (1 : Int) = ((1 : Nat) : Int) from rfl,h19,hb]
    have e1 : valR neg (Lib.decDigits 1) (-19) = ((false,0,0,()),10,()):=by
      rw [zaq (zdc 1) (c0:=1) (z:=0) (by decide) (by rw [zdd])]
      unfold normR
      rw [if_pos (by omega)]
    rw [e1]
    exact out _ (Or.inr ⟨rfl,rfl⟩)
theorem zc7 (n : Nat) (hn : 200000 ≤ n) (s : List UInt8) (hs : s.length ≤ 10000) : F.z7 n s = some (parseR s):=by
  unfold F.z7
  rw [zt4 n s (by omega) (by omega),za]
  by_cases h : (lookR s).1 = 0
  · obtain ⟨h1,h2,h3⟩:=zmf h
    obtain ⟨f,hcut⟩:=zpb n hs h
    have e0 : (!((0 : Int) == 0 && (0 : Int) == 0)) = false:=rfl
    rw [h1]
    simp only [e0,cond_false]
    rw [zit,za]
    simp only [hcut,za]
    have ha : Digs (aheadD s):=zbm _
    have hb:=zfn s
    have hlen : (aheadD s).length + (behindD s).length ≤ 10000:=by
      have hd : (s.drop (p0 s)).length ≤ 10000:=by simp; omega
      rcases h3 with ⟨a,b⟩ | ⟨a,b⟩
      · rw [b]; rw [a] at hd; simpa using hd
      · rw [a] at hd; simp at hd; omega
    unfold parseR
    rw [if_pos h]
    generalize aheadD s = a at *
    generalize behindD s = b at *
    have htb:=zj7 b
    rw [zkb n (by omega),za,zd (by rw [zbb]; omega),zru n (by simp; omega),za]
    have hab : Digs (a ++ trz b):=z7.2 ⟨ha,zco hb⟩
    have hall:=zso (a ++ trz b)
    have hallL : (lz (a ++ trz b)).length ≤ a.length + (trz b).length:=by simpa using hall
    have hts:=zj7 (lz (a ++ trz b))
    rw [zkb n (by omega),za]
    have hval : valR (negD s) (lz (a ++ trz b)) (-((trz b).length : Int)) = valR (negD s) (a ++ b) (-(b.length : Int)):=by
      rw [zt6 _ hab]
      have hpad:=zbz b
      conv => rhs; rw [hpad]
      rw [← List.append_assoc,zcq _ hab]
      congr 1
      simp
      omega
    have hD:=ze5 hab
    have hw : IntKind.wrap .i64 (0 - ((trz b).length : Int)) = -((trz b).length : Int):=by rw [zl (by omega)]; omega
    rw [hw]
    by_cases hz : (trz b).length = 0
    · have ez : (-((trz b).length : Int) == 0) = true:=by simp [hz]
      rw [ez,cond_true]
      by_cases hsh : (trz (lz (a ++ trz b))).length < (lz (a ++ trz b)).length
      · have hw2 : IntKind.wrap .i64 (((lz (a ++ trz b)).length : Int) - ((trz (lz (a ++ trz b))).length : Int)) = (((lz (a ++ trz b)).length - (trz (lz (a ++ trz b))).length : Nat) : Int):=by rw [zl (by omega)]; omega
        rw [zd (by omega),hw2]
        have:=zf2 n hn (negD s) _ (zco hD) (by omega) (((lz (a ++ trz b)).length - (trz (lz (a ++ trz b))).length : Nat) : Int) (by omega) (zt5 _) 0 0 0 0 0 0
        refine this.trans ?_
        congr 2
        rw [← hval,hz]
        have hpad:=zbz (lz (a ++ trz b))
        conv => rhs; rw [hpad]
        rw [zcq _ (zco hD)]
        congr 1
        omega
      · have hq : trz (lz (a ++ trz b)) = lz (a ++ trz b):=by
          have hpad:=zbz (lz (a ++ trz b))
          rw [show (lz (a ++ trz b)).length - (trz (lz (a ++ trz b))).length = 0 from by omega,List.replicate_zero,List.append_nil] at hpad
          exact hpad.symm
        rw [zf (by omega)]
        have:=zf2 n hn (negD s) _ hD (by omega) (-((trz b).length : Int)) (by omega) hq 0 0 0 0 0 0
        refine this.trans ?_
        rw [hval]
    · have ez : (-((trz b).length : Int) == 0) = false:=by
        have : ¬ (-((trz b).length : Int)) = 0:=by omega
        simpa using this
      rw [ez,cond_false]
      have hq : trz (lz (a ++ trz b)) = lz (a ++ trz b):=by
        refine zj6 fun x hx => ?_
        have hrep:=zj9 (a ++ trz b)
        have hlast : (a ++ trz b).getLast? = some x:=by
          rw [hrep,List.getLast?_append,hx]; rfl
        rw [List.getLast?_append] at hlast
        cases e : (trz b).getLast? with
        | none => simp at e; rw [e] at hz; simp at hz
        | some y =>
          rw [e] at hlast
          have hy : y = x:=by simpa using hlast
          rw [← hy]
          exact zcp e
      have:=zf2 n hn (negD s) _ hD (by omega) (-((trz b).length : Int)) (by omega) hq 0 0 0 0 0 0
      refine this.trans ?_
      rw [hval]
  · have e : ((lookR s).1 == 0) = false:=by simpa using h
    unfold parseR
    rw [if_neg h,e]
    rfl
end Go.AM
set_option linter.unusedVariables false
set_option linter.unusedSimpArgs false
namespace Go.AM
def checkR (neg : Bool) (c : Nat) (e : Int) : Int:=
  if c ≠ 0 ∧ (e < -18 ∨ e > 18) then 10 else if (valR neg (Lib.decDigits c) e).2.1 = 0 ∧ (valR neg (Lib.decDigits c) e).1 = (neg,(c : Int),e,()) then 0 else 21
end Go.AM
set_option linter.unusedVariables false
set_option linter.unusedSimpArgs false
namespace Go.AM
theorem zrv {α : Type} (b : Bool) (u v : α) : (bif b then some u else some v) = some (bif b then u else v):=by cases b <;> rfl
def btw (x lo hi : Int) : Bool:=decide (lo ≤ x) && decide (x ≤ hi)
def wordI (x : Int) : Bool:=btw x 65 90 || (btw x 97 122 || (x == 95 || (x == 46 || (x == 45 || btw x 48 57))))
def cls (c : Int) (b : UInt8) : Bool:=
  bif c == 3 then btw b.toNat 33 126 && (!((b.toNat : Int) == 44) && !((b.toNat : Int) == 124))
  else bif c == 2 then ((b.toNat : Int) == 47) || wordI b.toNat
  else bif c == 1 then wordI b.toNat
  else (c == 4) && btw b.toNat 48 57
def may (c : Int) : Bool:=decide (1 ≤ c) && decide (c ≤ 4)
theorem cls4 (b : UInt8) : cls 4 b = isDig b:=by
  unfold cls isDig btw
  simp
  congr 1 <;> simp only [decide_eq_decide] <;> omega
theorem zt7 (n : Nat) (c : Int) : F.zbh n c = some (may c):=by
  unfold F.zbh may
  by_cases h : 1 ≤ c
  · rw [zd (by omega)]; simp [h]
  · rw [zf (by omega)]; simp [h]
theorem zna (n : Nat) (x lo hi : Int) : F.zao n x lo hi = some (btw x lo hi):=by
  unfold F.zao btw
  by_cases h : lo ≤ x
  · rw [zd (by omega)]; simp [h]
  · rw [zf (by omega)]; simp [h]
theorem zux (n : Nat) (c : Int) (b : UInt8) : F.zbk n c (b.toNat) = some (cls c b):=by
  unfold F.zbk cls wordI
  simp only [zna,za,zrv]
  congr 1
  cases c == 3 <;> cases c == 2 <;> cases c == 1 <;> cases c == 4 <;> generalize hx : (b.toNat : Int) = x <;> clear hx <;>
    (cases btw x 33 126 <;> cases x == 44 <;> cases btw x 65 90 <;> cases btw x 97 122 <;> cases x == 95 <;> cases x == 46 <;> cases x == 45 <;> cases x == 47 <;> rfl)
def badK (p : UInt8→Bool) : Nat→List UInt8→Int
  | _,[] => -1
  | k,b :: l => if p b then badK p (k + 1) l else (k : Int)
theorem zcj (p : UInt8→Bool) (k : Nat) (l : List UInt8) : 0 ≤ badK p k l ↔ ¬ l.all p = true:=by
  induction l generalizing k with
  | nil => simp [badK]
  | cons b l ih =>
    unfold badK
    by_cases h : p b = true
    · rw [if_pos h,ih]; simp [h]
    · rw [if_neg h]; simp [h]
theorem zkc (p : UInt8→Bool) (k : Nat) (l : List UInt8) (h : l.all p = true) : badK p k l = -1:=by
  induction l generalizing k with
  | nil => rfl
  | cons b l ih =>
    simp only [List.all_cons,Bool.and_eq_true] at h
    unfold badK
    rw [if_pos h.1,ih _ h.2]
theorem zmg (p : UInt8→Bool) (k : Nat) (l : List UInt8) : badK p k l < k + l.length ∨ badK p k l = -1:=by
  induction l generalizing k with
  | nil => exact Or.inr rfl
  | cons b l ih =>
    unfold badK
    by_cases hb : p b = true
    · rw [if_pos hb]; have:=ih (k + 1); simp; omega
    · rw [if_neg hb]; simp; omega
theorem zkd (n : Nat) (X : Type) (k0 : Unit→Option X) (kr : Int→Int→Option X) (c : Int) (s : List UInt8) (hs : s.length < 4611686018427387904) : ∀ (r : List UInt8) (k m : Nat),s.drop k = r→r.length < m →
    F.z8.L4 n k0 kr m c s (s.length : Int) (k : Int) = if 0 ≤ badK (cls c) k r then kr (badK (cls c) k r) 0 else k0 ():=by
  intro r
  induction r with
  | nil =>
    intro k m hk hm
    have:=zo hk
    cases m with
    | zero => simp at hm
    | succ m =>
      show F.z8.L4.step n _ k0 kr c s _ k = _
      unfold F.z8.L4.step
      rw [zf (by omega)]
      rfl
  | cons x r ih =>
    intro k m hk hm
    obtain ⟨h1,h2,h3⟩:=zn hk
    cases m with
    | zero => simp at hm
    | succ m =>
      show F.z8.L4.step n (F.z8.L4 n k0 kr m) k0 kr c s _ k = _
      unfold F.z8.L4.step
      rw [zd (by omega),zp,h2,za,zux,za]
      unfold badK
      by_cases hx : cls c x = true
      · rw [hx,if_pos rfl,zj (by omega),ih (k + 1) m h3 (by simp at hm; omega)]
        rfl
      · have hx : cls c x = false:=by simpa using hx
        rw [hx]
        have : ¬ (false = true):=by simp
        rw [if_neg this,if_pos (by omega)]
        rfl
theorem zt8 (n : Nat) (c : Int) (s : List UInt8) (hs : s.length < 4611686018427387904) (hn : s.length < n) : F.z8 n c s = some (bif may c then (badK (cls c) 0 s,0,()) else (0,1,())):=by
  unfold F.z8
  rw [zt7,za]
  cases hm : may c
  · rfl
  · simp only [Bool.not_true,cond_false]
    refine (zkd n _ _ _ c s hs s 0 n rfl hn).trans ?_
    by_cases h : 0 ≤ badK (cls c) 0 s
    · rw [if_pos h]; rfl
    · rw [if_neg h]
      have : s.all (cls c) = true:=Classical.byContradiction fun hh => h ((zcj _ _ _).2 hh)
      rw [zkc _ _ _ this]; rfl
def textF (c : Int) (s : List UInt8) (lo hi : Int) : Int × Int × Unit:=
  if may c = false ∨ lo < 0 ∨ hi < lo then (1,0,()) else if (s.length : Int) < lo then (13,(s.length : Int),()) else if (s.length : Int) > hi then (12,hi,())
  else if 0 ≤ badK (cls c) 0 s then (14,badK (cls c) 0 s,()) else (0,0,())
theorem zbk (n : Nat) (c : Int) (s : List UInt8) (lo hi : Int) (hs : s.length < 4611686018427387904) (hn : s.length < n) : F.zan n c s lo hi = some (textF c s lo hi):=by
  unfold F.zan textF
  rw [zt8 n c s hs hn,za]
  cases hm : may c
  · rw [if_pos (Or.inl rfl)]; rfl
  · simp only [cond_true]
    have e : (!((0 : Int) == 0)) = false:=rfl
    rw [e,cond_false]
    by_cases h1 : lo < 0
    · rw [zd h1,if_pos (Or.inr (Or.inl h1))]
    · rw [zf h1]
      by_cases h2 : hi < lo
      · rw [zd h2,if_pos (Or.inr (Or.inr h2))]
      · rw [zf h2,if_neg (by simp [h1,h2])]
        by_cases h3 : (s.length : Int) < lo
        · rw [zd h3,if_pos h3]
        · rw [zf h3,if_neg h3]
          by_cases h4 : (s.length : Int) > hi
          · rw [zd h4,if_pos h4]
          · rw [zf h4,if_neg h4]
            by_cases h5 : 0 ≤ badK (cls c) 0 s
            · rw [zd (by omega),if_pos h5]
            · rw [zf (by omega),if_neg h5]
def bytesOf (c : Int) : List UInt8:=
  bif c == 1 then [65,66,67,68,69,70,71,72,73,74,75,76,77,78,79,80,81,82,83,84,85,86,87,88,89,90,97,98,99,100,101,102,103,104,105,106,107,108,109,110,111,112,113,114,115,116,117,118,119,120,121,122,48,49,50,51,52,53,54,55,56,57,95,46,45]
  else bif c == 2 then [65,66,67,68,69,70,71,72,73,74,75,76,77,78,79,80,81,82,83,84,85,86,87,88,89,90,97,98,99,100,101,102,103,104,105,106,107,108,109,110,111,112,113,114,115,116,117,118,119,120,121,122,48,49,50,51,52,53,54,55,56,57,95,46,45,47]
  else bif c == 3 then [65,66,67,68,69,70,71,72,73,74,75,76,77,78,79,80,81,82,83,84,85,86,87,88,89,90,97,98,99,100,101,102,103,104,105,106,107,108,109,110,111,112,113,114,115,116,117,118,119,120,121,122,48,49,50,51,52,53,54,55,56,57,95,46,45,47,33,34,35,36,37,38,39,40,41,42,43,58,59,60,61,62,63,64,91,92,93,94,96,123,125,126]
  else bif c == 4 then [48,49,50,51,52,53,54,55,56,57] else []
theorem zpc (n : Nat) (c : Int) : F.za7 n c = some (bytesOf c):=by
  unfold F.za7 bytesOf
  rw [zd (by decide),zd (by decide),zd (by decide),zd (by decide)]
  cases c == 1 <;> cases c == 2 <;> cases c == 3 <;> cases c == 4 <;> rfl
theorem zlk (n : Nat) (X : Type) (k0 : Unit→Option X) (kr : Bool→Option X) (x : UInt8) (s : List UInt8) (hs : s.length < 4611686018427387904) : ∀ (r : List UInt8) (k m : Nat),s.drop k = r→r.length < m →
    F.zae.L3 n k0 kr m (x.toNat : Int) s (k : Int) = if x ∈ r then kr true else k0 ():=by
  intro r
  induction r with
  | nil =>
    intro k m hk hm
    have:=zo hk
    cases m with
    | zero => simp at hm
    | succ m =>
      show F.zae.L3.step n _ k0 kr _ s k = _
      unfold F.zae.L3.step
      rw [zf (by omega)]
      simp
  | cons y r ih =>
    intro k m hk hm
    obtain ⟨h1,h2,h3⟩:=zn hk
    cases m with
    | zero => simp at hm
    | succ m =>
      show F.zae.L3.step n (F.zae.L3 n k0 kr m) k0 kr _ s k = _
      unfold F.zae.L3.step
      rw [zd (by omega),zp,h2,za]
      by_cases hx : x = y
      · subst hx; simp
      · have : ¬ (y.toNat : Int) = (x.toNat : Int):=fun h => hx (zbc (by omega)).symm
        have e : ((y.toNat : Int) == (x.toNat : Int)) = false:=by simpa using this
        rw [e,cond_false,zj (by omega),ih (k + 1) m h3 (by simp at hm; omega)]
        simp [hx]
theorem zll : ∀ i : Fin 256,(UInt8.ofNat i.val ∈ bytesOf 1 ↔ cls 1 (UInt8.ofNat i.val) = true) ∧ (UInt8.ofNat i.val ∈ bytesOf 2 ↔ cls 2 (UInt8.ofNat i.val) = true) ∧ (UInt8.ofNat i.val ∈ bytesOf 3 ↔ cls 3 (UInt8.ofNat i.val) = true) ∧ (UInt8.ofNat i.val ∈ bytesOf 4 ↔ cls 4 (UInt8.ofNat i.val) = true):=by decide +kernel
theorem zmh (c : Int) (b : UInt8) : b ∈ bytesOf c ↔ cls c b = true:=by
  have h:=zll ⟨b.toNat,b.toNat_lt⟩
  have e : UInt8.ofNat b.toNat = b:=by simp
  simp only [e] at h
  by_cases h1 : c = 1
  · subst h1; exact h.1
  by_cases h2 : c = 2
  · subst h2; exact h.2.1
  by_cases h3 : c = 3
  · subst h3; exact h.2.2.1
  by_cases h4 : c = 4
  · subst h4; exact h.2.2.2
  have b1 : (c == 1) = false:=by simp [h1]
  have b2 : (c == 2) = false:=by simp [h2]
  have b3 : (c == 3) = false:=by simp [h3]
  have b4 : (c == 4) = false:=by simp [h4]
  unfold bytesOf cls
  rw [b1,b2,b3,b4]
  simp
theorem zuq (n : Nat) (hn : 100 ≤ n) (c : Int) (x : UInt8) : F.zae n c (x.toNat : Int) = some (cls c x):=by
  unfold F.zae
  rw [zpc,za]
  have hl : (bytesOf c).length < 100:=by
    unfold bytesOf
    cases c == 1 <;> cases c == 2 <;> cases c == 3 <;> cases c == 4 <;> decide
  refine (zlk n _ _ _ x (bytesOf c) (by omega) (bytesOf c) 0 n rfl (by omega)).trans ?_
  by_cases h : x ∈ bytesOf c
  · rw [if_pos h,(zmh c x).1 h]
  · rw [if_neg h]
    cases e : cls c x
    · rfl
    · exact absurd ((zmh c x).2 e) h
theorem zke (n : Nat) (hn : 100 ≤ n) (X : Type) (k0 : Unit→Option X) (kr : Int→Option X) (c : Int) (s : List UInt8) (hs : s.length < 4611686018427387904) : ∀ (r : List UInt8) (k m : Nat),s.drop k = r→r.length < m →
    F.zy.L2 n k0 kr m c s (k : Int) = if 0 ≤ badK (cls c) k r then kr (badK (cls c) k r) else k0 ():=by
  intro r
  induction r with
  | nil =>
    intro k m hk hm
    have:=zo hk
    cases m with
    | zero => simp at hm
    | succ m =>
      show F.zy.L2.step n _ k0 kr c s k = _
      unfold F.zy.L2.step
      rw [zf (by omega)]
      rfl
  | cons x r ih =>
    intro k m hk hm
    obtain ⟨h1,h2,h3⟩:=zn hk
    cases m with
    | zero => simp at hm
    | succ m =>
      show F.zy.L2.step n (F.zy.L2 n k0 kr m) k0 kr c s k = _
      unfold F.zy.L2.step
      rw [zd (by omega),zp,h2,za,zuq n hn,za]
      unfold badK
      by_cases hx : cls c x = true
      · rw [hx,if_pos rfl,zj (by omega),ih (k + 1) m h3 (by simp at hm; omega)]
        rfl
      · have hx : cls c x = false:=by simpa using hx
        rw [hx]
        have : ¬ (false = true):=by simp
        rw [if_neg this,if_pos (by omega)]
        rfl
theorem zhd (n : Nat) (h100 : 100 ≤ n) (c : Int) (s : List UInt8) (hs : s.length < 4611686018427387904) (hn : s.length < n) : F.zy n c s = some (badK (cls c) 0 s):=by
  unfold F.zy
  refine (zke n h100 _ _ _ c s hs s 0 n rfl hn).trans ?_
  by_cases h : 0 ≤ badK (cls c) 0 s
  · rw [if_pos h]
  · rw [if_neg h]
    have : s.all (cls c) = true:=Classical.byContradiction fun hh => h ((zcj _ _ _).2 hh)
    rw [zkc _ _ _ this]
end Go.AM
