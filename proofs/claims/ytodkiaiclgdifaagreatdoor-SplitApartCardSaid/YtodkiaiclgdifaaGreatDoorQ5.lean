/- Part 5 of a proof by the abstract machine. -/
import Derived.Test.YtodkiaiclgdifaaGreatDoorQ4
import Derived.Shelf.SlSortCmp.WholeK
import Derived.Deep.RegionHeld2
import Derived.Lib.Walk
import Derived.LoopN
import Derived.Lib.Builder
import Derived.WalkKit
import Derived.BigCall
import Derived.BigGuard
import Derived.Test.YtodkiaiclgdifaaGreatDoorProg
import Derived.KernelRfl
import Derived.WalkLawsBesides
import Derived.Defers
import Derived.Recover
import Derived.BigRegion
import Derived.Test.YtodkiaiclgdifaaGreatDoorRows
import Derived.Shelf.Spec.BitsCarry
import Derived.Lib.ItoaNum
import Derived.Lib.ItoaLen
import Derived.Lib.AtoiAll
import Derived.Lib.TrimByte
open List renaming replicate→afR,getElem?_set_ne→afU,length_cons→af3,append_assoc→agp,cons_append→agt,replicate_succ'→agv,replicate_succ→agy,nil_append→agz,getElem?_eq_some_iff→agA,getElem?_set→agH,all_eq_true→agK,append_nil→agV
open Go.IntKind renaming wrap→afS,i64→agJ
open BitVec renaming ofInt→afT,toNat_ofInt→agD
open UInt8 renaming ofNat→afV
open Nat renaming mul_assoc→afW,pow_succ→afZ,pow_le_pow_right→af8,pow_zero→af9,xor_lt_two_pow→agc,mul_one→agd,le_mul_of_pos_left→agi,pow_pos→agx,mul_comm→agE,strongRecOn→agO,div_eq_of_lt→agQ,le_refl→agW,pow_add→agZ
open Go.Lib renaming decDigits→afX,cell_of_heap→ags,trimRightB→agG
open Go.World renaming cell?_alloc_past→af0,block_lt_of_cell?→aga,frozen?_alloc_past→agC
open Go.Exit renaming thenS→af4
open Ne renaming symm→agq
open Array renaming getElem?_toList→agL,replicate→agT
open Option.some renaming inj→agN
open Go.Op renaming bytesLess→agP
set_option linter.unusedVariables false
set_option linter.unusedSimpArgs false
namespace Go.Proofs
open Go.Shelf Go.RowKit Go.Sort
set_option maxHeartbeats 1000000 in
theorem Tryz.C8(s:ByteArray)(w:World):Calls Tryz.prog 194 #[.string s] w fun e w'=>e = .returned (.bool false)∧w'=w:=by
 have mixed:Tryz.prog.follows .mixedOrders:=by kernel_rfl
 go_enter Tryz.func194,Tryz.ntmps194
 go_wp2
 go_ret
 exact⟨rfl,rfl⟩
theorem Tryz.HK(x y:ByteArray)(w:World):(Go.binOp .gtr 9 (.string x) (.string y)).run Tryz.prog w = .ok (.bool (!(agP x.toList y.toList||x.toList==y.toList))) w:=by simp[Go.binOp,Op.stringOp]
set_option maxHeartbeats 2000000 in
theorem Tryz.uk(x y:ByteArray)(w:World):Calls Tryz.prog 134 #[.string x,.string y] w fun e w'=>e = .returned (.int .i64 (if agP x.toList y.toList then -1 else if agP x.toList y.toList||x.toList==y.toList then 0 else 1))∧w'=w:=by
 have mixed:Tryz.prog.follows .mixedOrders:=by kernel_rfl
 go_enter Tryz.func134,Tryz.ntmps134
 go_wp2_with (go_at_call 194;refine(Tryz.C8 _ _).mono ?_;rintro e w' ⟨rfl,rfl⟩)
 all_goals try (
  rw[Tryz.HK];simp only[Result.andThen];rw[Oper.upon_value];generalize hq:(agP x.toList y.toList||x.toList==y.toList)=q;cases q
  all_goals (simp only[Bool.not_true,Bool.not_false];go_wp2))
 all_goals (go_ret;refine⟨?_,rfl⟩;simp_all)
set_option maxHeartbeats 4000000 in
theorem Tryz.HL(b:Nat)(p q:Int)(w:World)(h0:w.cell? ⟨b,0,none⟩=some (.int .i64 p))(h1:w.cell? ⟨b,1,none⟩=some (.int .i64 q)):Calls Tryz.prog 133 #[.slice (some ⟨b,0,none⟩) 2 2] w fun e w'=>e = .returned (.int .i64 (if p=0 then q else p))∧w'=w:=by
 have mixed:Tryz.prog.follows .mixedOrders:=by kernel_rfl
 go_enter Tryz.func133,Tryz.ntmps133
 go_wp2
 refine wp_loop_rounds 3 ?_;rw[rounds_succ];by_cases hp:p=0
 ·subst hp
  go_wp2
  rw[rounds_succ];by_cases hq:q=0
  ·subst hq
   go_wp2
   rw[rounds_succ]
   go_wp2
   go_ret
   exact⟨rfl,rfl⟩
  ·go_wp2
   all_goals first|(go_ret;refine⟨?_,rfl⟩;simp_all) |(exfalso;simp_all)
 ·go_wp2
  all_goals first|(go_ret;refine⟨?_,rfl⟩;simp_all) |(exfalso;simp_all)
set_option maxHeartbeats 8000000 in
set_option maxRecDepth 100000 in
theorem Tryz.Mw(x y:AM.hQ)(w:World):Calls Tryz.prog 132 #[.agg (AM.gJ x).toArray,.agg (AM.gJ y).toArray] w fun e w'=>e = .returned (.int .i64 (AM.cmpL x y))∧∃q os,w'=grow (w.drewN q) os:=by
 have mixed:Tryz.prog.follows .mixedOrders:=by kernel_rfl
 obtain⟨k1,v1⟩:=x;obtain⟨k2,v2⟩:=y;show Calls Tryz.prog 132 #[.agg #[.string ⟨k1.toArray⟩,.string ⟨v1.toArray⟩],.agg #[.string ⟨k2.toArray⟩,.string ⟨v2.toArray⟩]] w _;have hb:∀l:List UInt8,(⟨l.toArray⟩:ByteArray).toList=l:=fun l=>by rw[AM.pc]
 have c1:∀W,Calls Tryz.prog 134 #[.string ⟨k1.toArray⟩,.string ⟨k2.toArray⟩] W fun e w'=>e = .returned (.int .i64 (AM.qI k1 k2))∧w'=W:=fun W=>by have h:=Tryz.uk ⟨k1.toArray⟩ ⟨k2.toArray⟩ W;simp only[hb]at h;exact h
 have c2:∀W,Calls Tryz.prog 134 #[.string ⟨v1.toArray⟩,.string ⟨v2.toArray⟩] W fun e w'=>e = .returned (.int .i64 (AM.qI v1 v2))∧w'=W:=fun W=>by have h:=Tryz.uk ⟨v1.toArray⟩ ⟨v2.toArray⟩ W;simp only[hb]at h;exact h
 unfold AM.cmpL;simp only;clear hb;generalize AM.qI k1 k2=r1 at c1 ⊢;generalize AM.qI v1 v2=r2 at c2 ⊢;generalize (⟨k1.toArray⟩:ByteArray)=k1 at c1 ⊢;generalize (⟨k2.toArray⟩:ByteArray)=k2 at c1 ⊢;generalize (⟨v1.toArray⟩:ByteArray)=v1 at c2 ⊢;generalize (⟨v2.toArray⟩:ByteArray)=v2 at c2 ⊢
 have c3:∀(W:World)(b:Nat),W.heap.size=b→Calls Tryz.prog 133 #[.slice (some ⟨b,0,none⟩) 2 2] (W.alloc (.cells #[.int .i64 r1,.int .i64 r2] 3)).drew fun e w'=>e = .returned (.int .i64 (if r1=0 then r2 else r1))∧w'=(W.alloc (.cells #[.int .i64 r1,.int .i64 r2] 3)).drew:=by
  rintro W b rfl
  have hh:(W.alloc (.cells #[.int .i64 r1,.int .i64 r2] 3)).drew.heap[W.heap.size]? = some (.cells #[.int .i64 r1,.int .i64 r2] 3 (0,0)):=World.alloc_heap_new W _;exact Tryz.HL _ r1 r2 _ (by rw[ags hh];rfl) (by rw[ags hh];rfl)
 generalize (if r1=0 then r2 else r1)=rr at c3 ⊢
 go_enter Tryz.func132,Tryz.ntmps132
 go_wp2
 go_region_held2 (fun W=>W.cell? ⟨w.heap.size,0,none⟩=some (.string k1)∧W.cell? ⟨w.heap.size,1,none⟩=some (.string v1)∧W.cell? ⟨w.heap.size+1,0,none⟩=some (.string k2)∧W.cell? ⟨w.heap.size+1,1,none⟩=some (.string v2)) (go_keep) (first
  |(go_at_call_of 134 (Value.string k1);refine(c1 _).mono ?_;rintro e w' ⟨rfl,rfl⟩)
  |(go_at_call_of 134 (Value.string v1);refine(c2 _).mono ?_;rintro e w' ⟨rfl,rfl⟩)
  |(go_at_call 133;refine(c3 _ _ (by simp)).mono ?_;rintro e w' ⟨rfl,rfl⟩))
 go_wp2
 go_ret
 exact⟨rfl,1,_,by rw[alloc_eq_grow,alloc_eq_grow,alloc_eq_grow,grow_grow,grow_grow];rfl⟩
set_option maxHeartbeats 4000000 in
set_option maxRecDepth 100000 in
theorem Tryz.C9(A:Option Addr)(w:World):Calls Tryz.prog 131 #[.slice A 0 0,.func (.func 132) #[] #[]] w fun e w'=>e = .returned (.tuple #[])∧w.grownBy w' none:=by
 have mixed:Tryz.prog.follows .mixedOrders:=by kernel_rfl
 go_enter Tryz.func131,Tryz.ntmps131
 go_wp2
 refine wp_loop_rounds 1 ?_;rw[rounds_succ]
 go_wp2
 refine wp_loop_rounds 1 ?_;rw[rounds_succ]
 go_wp2
 go_end0
 all_goals try simp only[]
 go_wp2
 try simp only[Exit.inBlock,Exit.then]
 refine bodyPost_ret (results_none rfl _ _ _) rfl ?_
 try simp only[]
 go_at_K
 go_wp2
 go_end0
 exact⟨rfl,⟨rfl,rfl,rfl,agW _,fun _ _ _=>rfl⟩⟩
theorem zpl:AM.jg Tryz.prog (fun _=>True) 131 (.sort AM.vc 132 AM.cy):=by refine AM.Hq (AM.enters Tryz.func131 (by kernel_rfl) (by decide)) (fun q cap d w hH hq hd => ?_) Tryz.C9;have eg:∀args w,(callFunc 132 args).run Tryz.prog w = .ok (.enter 132 args) w:=enters_of Tryz.func132 (by kernel_rfl) rfl;exact AnyQ.slices_SortFunc Tryz.HI 2 Tryz.isAgg78 Tryz.sizeOf78 AM.gJ (fun _=>rfl) (fun x v hv=>by simp[AM.gJ]at hv;rcases hv with rfl|rfl<;>rfl) AM.cmpL AM.ae4 132 #[] q 0 cap d w eg (fun _ _ _ _ x y=>Tryz.Mw x y _) hH hq hd
end Go.Proofs
namespace Go.AM
open Go.Proofs Go.RowKit
set_option maxHeartbeats 6400000 in
set_option maxRecDepth 100000 in
theorem z04(w:World):Calls Tryz.prog 79 #[] w fun e w'=>e = .returned (.map (some w.heap.size))∧w'=w.alloc (.map (nI [(1,145),(2,146),(3,147),(4,146)]) 4):=by
 have mixed:Tryz.prog.follows .mixedOrders:=by kernel_rfl
 have h0:(Instr.makeMap 138 none).run Tryz.prog w = .ok (.map (some w.heap.size)) (w.alloc (.map #[] 0)):=rfl;have up:=fun es c key v h=>zfo (P:=Tryz.prog) (t:=138) (k:=3) (e:=136) Tryz.underlying138 Tryz.underlying3 w es c key v h;have h1:=up #[] 0 1 (.func (.func 145) #[] #[]) (by simp);have h2:=up #[⟨.int .i64 1,.func (.func 145) #[] #[],0⟩] 1 2 (.func (.func 146) #[] #[]) (by simp);have h3:=up #[⟨.int .i64 1,.func (.func 145) #[] #[],0⟩,⟨.int .i64 2,.func (.func 146) #[] #[],1⟩] 2 3 (.func (.func 147) #[] #[]) (by simp);have h4:=up #[⟨.int .i64 1,.func (.func 145) #[] #[],0⟩,⟨.int .i64 2,.func (.func 146) #[] #[],1⟩,⟨.int .i64 3,.func (.func 147) #[] #[],2⟩] 3 4 (.func (.func 146) #[] #[]) (by simp);clear up;simp only[List.push_toArray,agz,agt]at h1 h2 h3 h4
 go_enter Tryz.func79,Tryz.ntmps79
 go_wp2
 go_ret
 exact⟨rfl,rfl⟩
theorem zqq:jg Tryz.prog (fun _=>True) 79 (.yX [(1,145),(2,146),(3,147),(4,146)]):=fun w _ =>zx (enters Tryz.func79 (by kernel_rfl) (by decide)) ((z04 w).mono fun e w' ⟨h1,h2⟩=>⟨_,h1,rfl,4,h2⟩)
end Go.AM
namespace Go.AM
open Go.Proofs Go.RowKit
set_option maxHeartbeats 2000000 in
set_option maxRecDepth 100000 in
theorem zuk(b:Nat)(w:World)(h4:w.cell? ⟨b,4,none⟩=some (.bool false)) :
 Calls Tryz.prog 46 #[.pointer (some ⟨b,0,none⟩)] w fun e w'=>e = .returned (.tuple #[])∧w'=w:=by
 have mixed:Tryz.prog.follows .mixedOrders=true:=by kernel_rfl
 go_enter Tryz.func46,Tryz.ntmps46
 go_wp2
 go_end0
 exact⟨rfl,rfl⟩
set_option maxHeartbeats 2000000 in
set_option maxRecDepth 100000 in
theorem zul(b:Nat)(w:World)(h4:w.cell? ⟨b,4,none⟩=some (.bool true))(h2:w.cell? ⟨b,2,none⟩=some (.int .i64 0))(h3:w.cell? ⟨b,3,none⟩=some (.int .i64 0)) :
 Calls Tryz.prog 46 #[.pointer (some ⟨b,0,none⟩)] w fun e w'=>e = .returned (.tuple #[])∧w'=w:=by
 have mixed:Tryz.prog.follows .mixedOrders=true:=by kernel_rfl
 go_enter Tryz.func46,Tryz.ntmps46
 go_wp2
 go_end0
 exact⟨rfl,rfl⟩
set_option maxHeartbeats 2000000 in
set_option maxRecDepth 100000 in
theorem zr7(b:Nat)(c i:Int)(w:World)(h4:w.cell? ⟨b,4,none⟩=some (.bool true))(h2:w.cell? ⟨b,2,none⟩=some (.int .i64 c))(h3:w.cell? ⟨b,3,none⟩=some (.int .i64 i))(xP:¬(c=0∧i=0)) :
 Calls Tryz.prog 46 #[.pointer (some ⟨b,0,none⟩)] w fun e w'=>e = .panicked (sM 153 (.pointer (some ⟨b,0,none⟩)))∧w'=w:=by
 have mixed:Tryz.prog.follows .mixedOrders=true:=by kernel_rfl
 by_cases hc:c=0
 ·have hi:¬i=0:=fun e=>xP ⟨hc,e⟩
  go_enter Tryz.func46,Tryz.ntmps46
  go_wp2
  exact⟨rfl,rfl,rfl⟩
 ·go_enter Tryz.func46,Tryz.ntmps46
  go_wp2
  exact⟨rfl,rfl,rfl⟩
theorem z05:jg Tryz.prog (fun _=>True) 46 (.Br 153):=by
 intro w b vs t x y c i tr _ hh iz;have he:Enters Tryz.prog 46:=enters Tryz.func46 (by kernel_rfl) (by decide);have c2:w.cell? ⟨b,2,none⟩=some (.int .i64 c):=by rw[ags hh,←agL,iz];rfl
 have c3:w.cell? ⟨b,3,none⟩=some (.int .i64 i):=by rw[ags hh,←agL,iz];rfl
 have c4:w.cell? ⟨b,4,none⟩=some (.bool tr):=by rw[ags hh,←agL,iz];rfl
 refine⟨he _ _,callsIn_wide.2 ?_⟩;cases tr
 ·refine(zuk b w c4).mono ?_
  rintro e w' ⟨rfl,rfl⟩
  exact⟨rfl,rfl⟩
 ·by_cases xP:c=0∧i=0
  ·obtain⟨rfl,rfl⟩:=xP;refine(zul b w c4 c2 c3).mono ?_
   rintro e w' ⟨rfl,rfl⟩
   exact⟨rfl,rfl⟩
  ·refine(zr7 b c i w c4 c2 c3 xP).mono ?_
   rintro e w' ⟨rfl,rfl⟩
   refine⟨rfl,?_⟩;rw[if_pos];rw[Bool.true_and,Bool.not_eq_true',Bool.and_eq_false_iff,beq_eq_false_iff_ne,beq_eq_false_iff_ne];by_cases hc:c=0
   ·exact Or.inr fun e=>xP ⟨hc,e⟩
   ·exact Or.inl hc
set_option maxHeartbeats 2000000 in
set_option maxRecDepth 100000 in
theorem zr8(cv cu cn cf:Nat)(at' co fa no fc ff:Int)(tr:Bool)(w:World)
 (hv:w.cell? ⟨cv,0,none⟩=some (.pointer (some ⟨cu,0,none⟩))) (h1:w.cell? ⟨cu,1,none⟩=some (.int .i64 at')) (h2:w.cell? ⟨cu,2,none⟩=some (.int .i64 co)) (h3:w.cell? ⟨cu,3,none⟩=some (.int .i64 fa)) (h4:w.cell? ⟨cu,4,none⟩=some (.bool tr))
 (hn:w.cell? ⟨cn,0,none⟩=some (.int .i64 no)) (W8:w.cell? ⟨cf,0,none⟩=some (.int .i64 fc)) (W9:w.cell? ⟨cf,1,none⟩=some (.int .i64 ff))
 (z4:w.frozen? ⟨cu,4,none⟩=false) (zn:w.frozen? ⟨cn,0,none⟩=false) (Fa:w.frozen? ⟨cf,0,none⟩=false) (Fb:w.frozen? ⟨cf,1,none⟩=false)
 (d1:cu≠cn) (d2:cu≠cf) (d3:cn≠cf) (d4:cv≠cu) (d5:cv≠cn) (d6:cv≠cf) :
 CallsD Tryz.prog 96 #[.pointer (some ⟨cv,0,none⟩),.pointer (some ⟨cn,0,none⟩),.pointer (some ⟨cf,0,none⟩)] .returning w fun e u' w'=>e = .returned (.tuple #[])∧u' = .returning∧w'=((((w.setCell ⟨cu,4,none⟩ (.bool false)).setCell ⟨cn,0,none⟩ (.int .i64 at')).setCell ⟨cf,0,none⟩ (.int .i64 co)).setCell ⟨cf,1,none⟩ (.int .i64 fa)).drew:=by
 have mixed:Tryz.prog.follows .mixedOrders=true:=by kernel_rfl
 refine callsD_of_wpS Tryz.func96 rfl fun c₀ cs hu => ?_;apply wpS_seq;apply wpS_region;simp[wpOpsS,go_sem,recoverD,hu,Tryz.ntmps96,af4,hv,h4,z4];apply wpS_seq;apply wpS_seq;apply wpS_region;simp[wpOpsS,go_sem,recoverD,hu,af4];apply wpS_seq;apply wpS_region;simp[wpOpsS,go_sem,recoverD,hu,af4];refine wpS_cond (t:=false) (by simp[Act.eval,agT]) ?_;simp only[Bool.false_eq_true,if_false];refine wpS_of_wp (wp_skip ?_);simp only[af4];refine wpS_of_wp ?_;have k:∀(a:Addr)(v:Value),a≠⟨cu,4,none⟩→w.cell? a=some v→(w.setCell ⟨cu,4,none⟩ (.bool false)).cell? a=some v:=fun a v ha h=>(World.cell?_setCell_other _ _ _ _ (agq ha)).trans h;have kv:=k _ _ (by simp[d4]) hv;have k1:=k _ _ (by simp) h1;have k2:=k _ _ (by simp) h2;have k3:=k _ _ (by simp) h3;have kn:=k _ _ (by simp[agq d1]) hn;have C_:=k _ _ (by simp[agq d2]) W8;have Fc:=k _ _ (by simp[agq d2]) W9;have yn:(w.setCell ⟨cu,4,none⟩ (.bool false)).frozen? ⟨cn,0,none⟩=false:=by simpa using zn
 have HM:(w.setCell ⟨cu,4,none⟩ (.bool false)).frozen? ⟨cf,0,none⟩=false:=by simpa using Fa
 have HN:(w.setCell ⟨cu,4,none⟩ (.bool false)).frozen? ⟨cf,1,none⟩=false:=by simpa using Fb
 generalize w.setCell ⟨cu,4,none⟩ (.bool false)=w1 at *
 go_region
 all_goals
  refine⟨rfl,.returning,?_,.tuple #[],by simp[results,Tryz.results96],rfl,rfl,rfl⟩;cases c₀;simp_all
set_option maxHeartbeats 2000000 in
set_option maxRecDepth 100000 in
theorem zni(cv cu cn cf:Nat)(at' co fa no fc ff:Int)(tr:Bool)(w:World)
 (hv:w.cell? ⟨cv,0,none⟩=some (.pointer (some ⟨cu,0,none⟩))) (h1:w.cell? ⟨cu,1,none⟩=some (.int .i64 at')) (h2:w.cell? ⟨cu,2,none⟩=some (.int .i64 co)) (h3:w.cell? ⟨cu,3,none⟩=some (.int .i64 fa)) (h4:w.cell? ⟨cu,4,none⟩=some (.bool tr))
 (hn:w.cell? ⟨cn,0,none⟩=some (.int .i64 no)) (W8:w.cell? ⟨cf,0,none⟩=some (.int .i64 fc)) (W9:w.cell? ⟨cf,1,none⟩=some (.int .i64 ff))
 (z4:w.frozen? ⟨cu,4,none⟩=false) (zn:w.frozen? ⟨cn,0,none⟩=false) (Fa:w.frozen? ⟨cf,0,none⟩=false) (Fb:w.frozen? ⟨cf,1,none⟩=false)
 (d1:cu≠cn) (d2:cu≠cf) (d3:cn≠cf) (d4:cv≠cu) (d5:cv≠cn) (d6:cv≠cf) :
 CallsD Tryz.prog 96 #[.pointer (some ⟨cv,0,none⟩),.pointer (some ⟨cn,0,none⟩),.pointer (some ⟨cf,0,none⟩)] (.panicking [{ v:=.iface 153 (.agg #[.pointer (some ⟨cu,0,none⟩)]),recovered:=false }]) w fun e u' w'=>e = .returned (.tuple #[])∧u' = .panicking [{ v:=.iface 153 (.agg #[.pointer (some ⟨cu,0,none⟩)]),recovered:=true }]∧w'=(((((w.setCell ⟨cu,4,none⟩ (.bool false)).alloc (.cells #[.pointer (some ⟨cu,0,none⟩)] 153)).setCell ⟨cn,0,none⟩ (.int .i64 at')).setCell ⟨cf,0,none⟩ (.int .i64 co)).setCell ⟨cf,1,none⟩ (.int .i64 fa)).drew:=by
 have mixed:Tryz.prog.follows .mixedOrders=true:=by kernel_rfl
 refine callsD_of_wpS Tryz.func96 rfl fun c₀ cs hu => ?_;apply wpS_seq;apply wpS_region;simp[wpOpsS,go_sem,recoverD,hu,Tryz.ntmps96,af4,hv,h4,z4];have k:∀(a:Addr)(v:Value),a≠⟨cu,4,none⟩→w.cell? a=some v→(w.setCell ⟨cu,4,none⟩ (.bool false)).cell? a=some v:=fun a v ha h=>(World.cell?_setCell_other _ _ _ _ (agq ha)).trans h;have kv:=k _ _ (by simp[d4]) hv;have k1:=k _ _ (by simp) h1;have k2:=k _ _ (by simp) h2;have k3:=k _ _ (by simp) h3;have kn:=k _ _ (by simp[agq d1]) hn;have C_:=k _ _ (by simp[agq d2]) W8;have Fc:=k _ _ (by simp[agq d2]) W9;have yn:(w.setCell ⟨cu,4,none⟩ (.bool false)).frozen? ⟨cn,0,none⟩=false:=by simpa using zn
 have HM:(w.setCell ⟨cu,4,none⟩ (.bool false)).frozen? ⟨cf,0,none⟩=false:=by simpa using Fa
 have HN:(w.setCell ⟨cu,4,none⟩ (.bool false)).frozen? ⟨cf,1,none⟩=false:=by simpa using Fb
 obtain⟨j,hj,_⟩:=Option.map_eq_some_iff.1 (show(Tryz.prog.info? 151).map (·.size)=some 5 by kernel_rfl);have aff:∀w:World,(binOp .neq 101 (.pointer (some ⟨cu,0,none⟩)) (.pointer (some ⟨cu,0,none⟩))).run Tryz.prog w = .ok (.bool false) w:=fun w=>Lib.run_neq_ptr_same w _ Tryz.underlying101 hj;have hta:∀w:World,(Instr.typeAssert (.iface 153 (.agg #[.pointer (some ⟨cu,0,none⟩)])) 20 153 true).run Tryz.prog w = .ok (.tuple #[.agg #[.pointer (some ⟨cu,0,none⟩)],.bool true]) w:=fun _=>rfl;generalize w.setCell ⟨cu,4,none⟩ (.bool false)=w1 at *;apply wpS_seq;apply wpS_seq;apply wpS_region;simp[wpOpsS,go_sem,recoverD,hu,af4];apply wpS_seq;apply wpS_region;simp[wpOpsS,go_sem,recoverD,hu,af4];refine wpS_cond (t:=true) (by simp[Act.eval,agT]) ?_;simp only[if_true];apply wpS_seq;apply wpS_region;simp[wpOpsS,go_sem,recoverD,hu,af4,hta];have lv:cv<w1.heap.size:=aga _ _ kv;have lu:cu<w1.heap.size:=aga _ _ k1;have ln:cn<w1.heap.size:=aga _ _ kn;have lf:cf<w1.heap.size:=aga _ _ C_;have Gv:(w1.alloc (.cells #[.pointer (some ⟨cu,0,none⟩)] 153)).cell? ⟨w1.heap.size,0,none⟩=some (.pointer (some ⟨cu,0,none⟩)):=by simp
 replace kv:=(af0 (.cells #[.pointer (some ⟨cu,0,none⟩)] 153) cv 0 lv).trans kv;replace k1:=(af0 (.cells #[.pointer (some ⟨cu,0,none⟩)] 153) cu 1 lu).trans k1;replace k2:=(af0 (.cells #[.pointer (some ⟨cu,0,none⟩)] 153) cu 2 lu).trans k2;replace k3:=(af0 (.cells #[.pointer (some ⟨cu,0,none⟩)] 153) cu 3 lu).trans k3;replace kn:=(af0 (.cells #[.pointer (some ⟨cu,0,none⟩)] 153) cn 0 ln).trans kn;replace C_:=(af0 (.cells #[.pointer (some ⟨cu,0,none⟩)] 153) cf 0 lf).trans C_;replace Fc:=(af0 (.cells #[.pointer (some ⟨cu,0,none⟩)] 153) cf 1 lf).trans Fc;replace yn:=(agC (.cells #[.pointer (some ⟨cu,0,none⟩)] 153) cn 0 ln).trans yn;replace HM:=(agC (.cells #[.pointer (some ⟨cu,0,none⟩)] 153) cf 0 lf).trans HM;replace HN:=(agC (.cells #[.pointer (some ⟨cu,0,none⟩)] 153) cf 1 lf).trans HN;generalize w1.heap.size=q at *;generalize w1.alloc (.cells #[.pointer (some ⟨cu,0,none⟩)] 153)=w2 at *;apply wpS_seq;apply wpS_region;simp[wpOpsS,go_sem,recoverD,hu,af4,Gv,kv,aff];refine wpS_cond (t:=false) (by simp[Act.eval,agT]) ?_;simp only[Bool.false_eq_true,if_false];refine wpS_of_wp (wp_skip ?_);simp only[af4];refine wpS_of_wp ?_
 go_region
 all_goals
  refine⟨rfl,.panicking [{ v:=.iface 153 (.agg #[.pointer (some ⟨cu,0,none⟩)]),recovered:=true }],?_,.tuple #[],by simp[results,Tryz.results96],rfl,rfl,rfl⟩;cases c₀;simp_all
theorem z06{W:World→Prop}{F:sdenL [.sl .u8 .eY]→Option (RV.one (.sl .u8 .eY)).den}(gU:kI Tryz.prog W 159 [.sl .u8 .eY] (.one (.sl .u8 .eY)) F)(hF:∀l:List UInt8,l.length≤70368744177664→F (l,())=some l)
 {B0:Nat} {w0:Wd} {G:GS} {h:H} {w:World} (s:St B0 w0 G h w) (hw:W w) {u:Value} {l:List UInt8} {c:Cap} (hu:af w G u (.sl .u8 l c)) (hl:l.length≤70368744177664) :
 Calls Tryz.prog 159 #[u] w fun e w'=>∃A cc G',e = .returned (.slice A l.length cc)∧Ext G.base G G'∧bg G.D w w'∧St B0 w0 G' h w'∧af w' G' (.slice A l.length cc) (.sl .u8 l .eY):=by
 have he:Enters Tryz.prog 159:=enters Tryz.func159 (by kernel_rfl) (by decide);have xy:ak w ⟨G.D,[],[],[],[],rI⟩ (#[u]:Array Value).toList (kl [.sl .u8 .eY] (l,())):=by
  refine⟨rfl,fun i v a hv ha => ?_⟩
  match i,hv,ha with
  |0,hv,ha =>
   cases hv;cases ha;cases hu with
   |sl _ _ _ _ hc _=>exact .sl .u8 l .eY u hc trivial
  |i+1,hv,ha=>simp at hv
 rcases gU (l,()) l (hF l hl) w G.D #[u] hw xy (fun b o x=>(s.ec b o x).1)with⟨h1,h2⟩ |⟨v,w',h1,h2⟩
 ·refine(callsIn_wide.1 h2).mono fun e w' hR => ?_;cases e with
  | returned v =>
   obtain⟨av,G',h',x,kp,st,rv,hk⟩:=VQ s hR (k:=fun a h1=>some (a,h1)) rfl;simp only[Option.some.injEq,Prod.mk.injEq]at hk;obtain⟨rfl,rfl⟩:=hk;obtain⟨A,cc,rfl⟩:∃A cc,v = .slice A l.length cc:=by
    have rv:af w' G' v (.sl .u8 l .eY):=rv;cases rv with
    |sl _ _ _ _ hc _ =>simp only[al]at hc;obtain⟨_,A,cc,_,hv,_⟩:=hc;exact⟨A,cc,by simpa using hv⟩
   refine⟨A,cc,G',rfl,x,kp,?_,rv⟩;have e:h.tk++(mI [] ((RV.one (.sl .u8 .eY)).enc l)).2=h.tk:=agV _;rw[e]at st;exact st
  |panicked ch=>exact hR.elim
  |outgrown=>exact hR.elim
 ·rw[he #[u] w]at h1;cases h1
theorem zhl{n f:Nat}{a c i:Int}{W:World}(h0:W.cell? ⟨n,0,none⟩=some (.int .i64 a))(h1:W.cell? ⟨f,0,none⟩=some (.int .i64 c))(h2:W.cell? ⟨f,1,none⟩=some (.int .i64 i)){tmps:Array Value}
 (t4:tmps[4]?.getD undef = .pointer (some ⟨n,0,none⟩)) (t5:tmps[5]?.getD undef = .pointer (some ⟨f,0,none⟩)):(results Tryz.f50 tmps).run Tryz.prog W = .ok (.tuple #[.int .i64 a,.agg #[.int .i64 c,.int .i64 i]]) W:=by
 simp[results,Tryz.results50,go_sem,t4,t5,h0,h1,h2]
set_option maxHeartbeats 4000000 in
set_option maxRecDepth 100000 in
theorem z3z{W:World→Prop}{F:sdenL [.sl .u8 .eY]→Option (RV.one (.sl .u8 .eY)).den}(gU:kI Tryz.prog W 159 [.sl .u8 .eY] (.one (.sl .u8 .eY)) F)(hF:∀l:List UInt8,l.length≤70368744177664→F (l,())=some l):jg Tryz.prog W 50 (.vM 153):=by
 intro X B0 w0 G h w aj l c f first cap k r hW hlen s hr hyp
 have he:Enters Tryz.prog 50:=enters Tryz.func50 (by kernel_rfl) (by decide);obtain⟨u,g,jh,ru,rg⟩:=hr.two;have kG:aj=#[u,g]:=Array.ext' (by simpa using jh);subst kG;cases rg with
 |fn _ x y _ _ hx oJ hy xM =>
 refine⟨he _ _,callsIn_wide.2 ?_⟩;have i0:∀(w:World)(G:GS)(k:Int),af w G (.int .i64 k) (.int .i64 k):=fun w G k => .int _ _ (by simp);obtain⟨G1,x1,k1,s1,b1,v1⟩:=s.tE (vs:=#[.int .i64 0]) (cs:=[.int .i64 0]) (.cons (i0 _ _ _) .nil) 3 rfl;obtain⟨G2,x2,k2,s2,b2,v2⟩:=s1.tE (vs:=#[.int .i64 0,.int .i64 0]) (cs:=[.int .i64 0,.int .i64 0]) (.cons (i0 _ _ _) (.cons (i0 _ _ _) .nil)) 32 rfl;have hc:=z06 gU hF s2 (hW _ s2.below) ((ru.mono x1 k1).mono x2 k2) hlen;have hmf:∀(fn:Fn)(first cap:Array Value)(w:World),(Instr.makeFunc fn first cap).run Tryz.prog w = .ok (.func fn first cap) w:=fun _ _ _ _=>rfl;have y7:∀(fn:Fn)(a b:Array Value)(w:World),(binOp BinOp.eql 106 (.func fn a b) .nilFunc).run Tryz.prog w = .ok (.bool false) w:=fun _ _ _ _=>by kernel_rfl
 go_enter_defers Tryz.func50,Tryz.ntmps50
 go_wp2_with (first|(go_at_call 159;refine hc.mono ?_;rintro e w3 ⟨A,cc,G3,rfl,x3,k3,s3,rv⟩) |(go_at_call 95;go_in))
 obtain⟨G4,x4,s4⟩:=s3.BT;have oH:ak w3 G4 (#[.slice A l.length cc,.int .i64 0,.int .i64 0,.int .i64 0,.bool true]:Array Value).toList [.sl .u8 l .eY,.int .i64 0,.int .i64 0,.int .i64 0,.bool true]:=.cons (rv.mono x4 (bg.refl _ _)) (.cons (i0 _ _ _) (.cons (i0 _ _ _) (.cons (i0 _ _ _) (.cons (.bool _) .nil))));obtain⟨G5,x5,k5,s5,b5,v5⟩:=s4.tE oH 151 rfl;have l3:(h.bx++[[AV.int agJ 0]]++[[AV.int agJ 0,AV.int agJ 0]]++[hole]).length=h.bx.length+3:=by simp
 simp only[l3]at b5 v5;obtain⟨G6,x6,k6,s6,b6,v6⟩:=s5.fill (q:=h.bx.length+2) (by simp) (vs:=#[.pointer (some ⟨w3.heap.size,0,none⟩)]) (cs:=[.ref (h.bx.length+3) 0]) (.cons (.ref _ _ _ b5 v5) .nil) 101 rfl;have ebx:(h.bx++[[AV.int agJ 0]]++[[AV.int agJ 0,AV.int agJ 0]]++[hole]++[[AV.sl .u8 l .eY,AV.int .i64 0,AV.int .i64 0,AV.int .i64 0,AV.bool true]]).set (h.bx.length+2) [AV.ref (h.bx.length+3) 0]=h.bx++zU h.bx.length l:=by simp[zU,List.set_append]
 simp only[ebx]at s6;have y2:=x1.trans (x2.mono (jG x1));have y3:=y2.trans (x3.mono (jG y2));have y4:=y3.trans (x4.mono (jG y3));have y5:=y4.trans (x5.mono (jG y4));have y6:=y5.trans (x6.mono (jG y5));have z2:=k1.trans x1.D k2;have z3:=z2.trans y2.D k3;have z5:=z3.trans y4.D k5;have z6:=z5.trans y5.D k6;obtain⟨c5,u5⟩:=x6.kK b5 v5;obtain⟨b1,v1⟩:=x2.kK b1 v1;obtain⟨b1,v1⟩:=x3.kK b1 v1;obtain⟨b1,v1⟩:=x4.kK b1 v1;obtain⟨b1,v1⟩:=x5.kK b1 v1;obtain⟨b1,v1⟩:=x6.kK b1 v1;simp only[List.length_append,af3,List.length_nil]at b2 v2;obtain⟨b2,v2⟩:=x3.kK b2 v2;obtain⟨b2,v2⟩:=x4.kK b2 v2;obtain⟨b2,v2⟩:=x5.kK b2 v2;obtain⟨b2,v2⟩:=x6.kK b2 v2;have hs2:(w.alloc (.cells #[.int .i64 0] 3)).heap.size=w.heap.size+1:=Array.size_push ..;have hs6:(w3.alloc (.cells #[.slice A l.length cc,.int .i64 0,.int .i64 0,.int .i64 0,.bool true] 151)).heap.size=w3.heap.size+1:=Array.size_push ..;rw[hs2]at b2;rw[hs6]at b6;have facts:∀{G':GS}{h':H}{w':World},Ext G6.base G6 G'→St B0 w0 G' h' w'→∀{τ:Ty}{l':List τ.den}{sc:Cap}{ra rc ri C' Da Db:Int}{rt:Bool},h'.bx[h.bx.length+3]? = some [.sl τ l' sc,.int .i64 ra,.int .i64 rc,.int .i64 ri,.bool rt]→h'.bx[h.bx.length+2]? = some [.ref (h.bx.length+3) 0] →
  h'.bx[h.bx.length+1]? = some [.int .i64 Da,.int .i64 Db]→h'.bx[h.bx.length]? = some [.int .i64 C'] →
  (G'.bx[h.bx.length]? = some (some w.heap.size)∧G'.bx[h.bx.length+1]? = some (some (w.heap.size+1))∧G'.bx[h.bx.length+3]? = some (some w3.heap.size)) ∧
  w'.cell? ⟨w3.heap.size+1,0,none⟩=some (.pointer (some ⟨w3.heap.size,0,none⟩))∧w'.cell? ⟨w3.heap.size,1,none⟩=some (.int .i64 ra)∧w'.cell? ⟨w3.heap.size,2,none⟩=some (.int .i64 rc)∧w'.cell? ⟨w3.heap.size,3,none⟩=some (.int .i64 ri)∧w'.cell? ⟨w3.heap.size,4,none⟩=some (.bool rt) ∧
  w'.cell? ⟨w.heap.size,0,none⟩=some (.int .i64 C')∧w'.cell? ⟨w.heap.size+1,0,none⟩=some (.int .i64 Da)∧w'.cell? ⟨w.heap.size+1,1,none⟩=some (.int .i64 Db) ∧
  w'.frozen? ⟨w3.heap.size,4,none⟩=false∧w'.frozen? ⟨w.heap.size,0,none⟩=false∧w'.frozen? ⟨w.heap.size+1,0,none⟩=false∧w'.frozen? ⟨w.heap.size+1,1,none⟩=false ∧
  w3.heap.size≠w.heap.size∧w3.heap.size≠w.heap.size+1∧w3.heap.size+1≠w.heap.size∧w3.heap.size+1≠w.heap.size+1:=by
  intro G' h' w' xx st τ l' sc ra rc ri C' Da Db rt e3 e2 e1 e0;obtain⟨p0,_⟩:=xx.kK b1 v1;obtain⟨p1,_⟩:=xx.kK b2 v2;obtain⟨p2,_⟩:=xx.kK b6 v6;obtain⟨p3,_⟩:=xx.kK c5 u5;obtain⟨x0,g0,r0,z0⟩:=st.qJ p0 e0 rfl (i:=0) rfl;obtain⟨x1,g1,r1,z1⟩:=st.qJ p1 e1 rfl (i:=0) rfl;obtain⟨x2,g2,r2,z2⟩:=st.qJ p1 e1 rfl (i:=1) rfl;obtain⟨x3,g3,r3,z3⟩:=st.qJ p2 e2 rfl (i:=0) rfl;obtain⟨x4,g4,r4,z4⟩:=st.qJ p3 e3 rfl (i:=1) rfl;obtain⟨x5,g5,r5,z5⟩:=st.qJ p3 e3 rfl (i:=2) rfl;obtain⟨x6,g6,r6,z6⟩:=st.qJ p3 e3 rfl (i:=3) rfl;obtain⟨x7,g7,r7,z7⟩:=st.qJ p3 e3 rfl (i:=4) rfl;obtain⟨rfl,_⟩:=zj r0;obtain⟨rfl,_⟩:=zj r1;obtain⟨rfl,_⟩:=zj r2;obtain⟨rfl,_⟩:=zj r4;obtain⟨rfl,_⟩:=zj r5;obtain⟨rfl,_⟩:=zj r6;obtain rfl:=n5 r7;have hx3:x3 = .pointer (some ⟨w3.heap.size,0,none⟩):=by
   cases r3 with
   |ref _ _ b hb hv =>rw[p3]at hb;obtain rfl:=agN (agN hb);rfl
  subst hx3;refine⟨⟨p0,p1,p3⟩,g3,g4,g5,g6,g7,g0,g1,g2,z7,z0,z1,z2,fun e => ?_,fun e => ?_,fun e => ?_,fun e => ?_⟩
  ·rw[e]at p3;have:=st.inj _ _ _ p3 p0;omega
  ·rw[e]at p3;have:=st.inj _ _ _ p3 p1;omega
  ·rw[e]at p2;have:=st.inj _ _ _ p2 p0;omega
  ·rw[e]at p2;have:=st.inj _ _ _ p2 p1;omega
 have vm:∀w:World,w.grownBy w.drew none:=fun _=>⟨rfl,rfl,rfl,agW _,fun _ _ _=>rfl⟩;have HO:∀{bx:List (List AV)}{a b d e C D:List AV},bx[h.bx.length+3]? = some a→bx[h.bx.length+2]? = some b→bx[h.bx.length+1]? = some d→bx[h.bx.length]? = some e →
  (dF (dF bx h.bx.length C) (h.bx.length+1) D)[h.bx.length+3]? = some a∧(dF (dF bx h.bx.length C) (h.bx.length+1) D)[h.bx.length+2]? = some b∧(dF (dF bx h.bx.length C) (h.bx.length+1) D)[h.bx.length+1]? = some D∧(dF (dF bx h.bx.length C) (h.bx.length+1) D)[h.bx.length]? = some C:=by
  intro bx a b d e C D h3 h2 h1 h0;have l1:=(agA.1 h1).1;simp only[zk];refine⟨?_,?_,?_,?_⟩
  ·rw[afU (by omega),afU (by omega)];exact h3
  ·rw[afU (by omega),afU (by omega)];exact h2
  ·rw[agH,if_pos rfl,if_pos (by rw[List.length_set];exact l1)]
  ·rw[afU (by omega),agH,if_pos rfl,if_pos (by omega)]
 have rx:ak w G x.toList first:=⟨by simpa using hx,fun i v c hv hc=>oJ i v c (by simpa using hv) hc⟩
 have ry:ak w G y.toList cap:=⟨by simpa using hy,fun i v c hv hc=>xM i v c (by simpa using hv) hc⟩;obtain⟨g1,g2⟩:=hyp G6 _ (x.push (.pointer (some ⟨w3.heap.size,0,none⟩))++y) y6 z6 s6 (by rw[Array.toList_append,Array.toList_push];exact((rx.mono y6 z6).append (.cons (.ref _ _ _ c5 u5) .nil)).append (ry.mono y6 z6));rw[g1,Oper.upon_enter];refine(callsIn_wide.1 g2).mono ?_;intro e w' hE;cases e with
 |outgrown=>exact hE.elim
 |returned v =>
  obtain⟨av,G',h',xx,kx,st,rv',hk⟩:=hE;obtain⟨τ,l',sc,ra,rc,ri,C',Da,Db,rt,e3,e2,e1,e0,hk⟩:=zhk hk;obtain⟨⟨p0,p1,p3⟩,kv,kc1,kc2,kc3,kc4,kn,C_,Fc,zc4,zn,Fa,Fb,d1,d2,d5,d6⟩:=facts xx st e3 e2 e1 e0;obtain⟨ka,sa⟩:=st.AF (a:=ra) (c:=rc) (i:=ri) p0 p1 e0 e1;have kb:=bg.fB (vm _) (fun b o x=>(sa.ec b o x).1) (fun _ _ _=>by simp);have sb:=sa.gH (vm _);obtain⟨m3,m2,m1,m0⟩:=HO (C:=[.int .i64 ra]) (D:=[.int .i64 rc,.int .i64 ri]) e3 e2 e1 e0;obtain⟨_,jv,j1,j2,j3,j4,jn,jf0,jf1,yc4,yn,HM,HN,_,_,_,_⟩:=facts xx sb m3 m2 m1 m0;obtain⟨kc,sc'⟩:=sb.xT (o:=4) (v:=.bool false) (a:=.bool false) p3 m3 rfl (.bool _) rfl rfl;have n0:(dF (dF (dF h'.bx h.bx.length [.int .i64 ra]) (h.bx.length+1) [.int .i64 rc,.int .i64 ri]) (h.bx.length+3) [.sl τ l' sc,.int .i64 ra,.int .i64 rc,.int .i64 ri,.bool false])[h.bx.length]? = some [.int .i64 ra]:=by rw[zk _ (h.bx.length+3),afU (by omega)];exact m0
  have n1:(dF (dF (dF h'.bx h.bx.length [.int .i64 ra]) (h.bx.length+1) [.int .i64 rc,.int .i64 ri]) (h.bx.length+3) [.sl τ l' sc,.int .i64 ra,.int .i64 rc,.int .i64 ri,.bool false])[h.bx.length+1]? = some [.int .i64 rc,.int .i64 ri]:=by rw[zk _ (h.bx.length+3),afU (by omega)];exact m1
  obtain⟨kd,sd⟩:=sc'.AF (a:=ra) (c:=rc) (i:=ri) p0 p1 n0 n1;have ke:=bg.fB (vm _) (fun b o x=>(sd.ec b o x).1) (fun _ _ _=>by simp);have se:=sd.gH (vm _);have q3:h.bx.length+3<h'.bx.length:=(agA.1 e3).1;rw[zuj q3]at hk;have n2:(dF (dF (dF h'.bx h.bx.length [.int .i64 ra]) (h.bx.length+1) [.int .i64 rc,.int .i64 ri]) (h.bx.length+3) [.sl τ l' sc,.int .i64 ra,.int .i64 rc,.int .i64 ri,.bool false])[h.bx.length+2]? = some [.ref (h.bx.length+3) 0]:=by rw[zk _ (h.bx.length+3),afU (by omega)];exact m2
  have n3:(dF (dF (dF h'.bx h.bx.length [.int .i64 ra]) (h.bx.length+1) [.int .i64 rc,.int .i64 ri]) (h.bx.length+3) [.sl τ l' sc,.int .i64 ra,.int .i64 rc,.int .i64 ri,.bool false])[h.bx.length+3]? = some [.sl τ l' sc,.int .i64 ra,.int .i64 rc,.int .i64 ri,.bool false]:=by rw[zk _ (h.bx.length+3),agH,if_pos rfl,if_pos (by simp only[zk,List.length_set];exact q3)]
  obtain⟨o3,o2,o1,o0⟩:=HO (C:=[.int .i64 ra]) (D:=[.int .i64 rc,.int .i64 ri]) n3 n2 n1 n0;obtain⟨_,t0,t1,t2,t3,t4,tn,W_,Xa,_,_,_,_,_,_,_,_⟩:=facts xx se o3 o2 o1 o0
  go_wp2
  go_region
  go_wp2
  refine leaves_cons (f:=96) (args:=#[.pointer (some ⟨w3.heap.size+1,0,none⟩),.pointer (some ⟨w.heap.size,0,none⟩),.pointer (some ⟨w.heap.size+1,0,none⟩)]) (by simp) (by simp[go_sem]) ?_;refine(zr8 _ _ _ _ ra rc ri ra rc ri rt _ jv j1 j2 j3 j4 jn jf0 jf1 yc4 yn HM HN d1 d2 (by omega) (by omega) d5 d6).mono ?_
  rintro e u' w2 ⟨rfl,rfl,rfl⟩
  refine⟨.tuple #[.int .i64 ra,.agg #[.int .i64 rc,.int .i64 ri]],?_,?_⟩
  ·exact zhl tn W_ Xa rfl rfl
  ·have yx:=y6.trans (xx.mono (jG y6));exact⟨_,G',_,yx,(((((z6.trans y6.D kx).trans yx.D ka).trans yx.D kb).trans yx.D kc).trans yx.D kd).trans yx.D ke,se,zqp _ _ _ _ _,hk⟩
 | panicked ch =>
  obtain⟨b,G',h',rfl,hb,xx,kx,st,hk⟩:=hE;obtain⟨τ,l',sc,ra,rc,ri,C',Da,Db,rt,e3,e2,e1,e0,hk⟩:=zhk hk;obtain⟨⟨p0,p1,p3⟩,kv,kc1,kc2,kc3,kc4,kn,C_,Fc,zc4,zn,Fa,Fb,d1,d2,d5,d6⟩:=facts xx st e3 e2 e1 e0;obtain rfl:b=w3.heap.size:=by
   rw[c5]at hb;rcases hb with hb|hb
   ·exact(agN (agN hb)).symm
   ·cases hb
  obtain⟨ka,sa⟩:=st.xT (o:=4) (v:=.bool false) (a:=.bool false) p3 e3 rfl (.bool _) rfl rfl;have CM:∀(w:World)(o:Obj),w.grownBy (w.alloc o) none:=fun w o=>World.grownBy_alloc w _ none;have kb:=bg.fB (CM _ (.cells #[.pointer (some ⟨w3.heap.size,0,none⟩)] 153)) (fun b o x=>(sa.ec b o x).1) (fun _ _ _=>by simp);have sb:=sa.gH (CM _ (.cells #[.pointer (some ⟨w3.heap.size,0,none⟩)] 153));have q3:h.bx.length+3<h'.bx.length:=(agA.1 e3).1;have n0:(dF h'.bx (h.bx.length+3) [.sl τ l' sc,.int .i64 ra,.int .i64 rc,.int .i64 ri,.bool false])[h.bx.length]? = some [.int .i64 C']:=by rw[zk,afU (by omega)];exact e0
  have n1:(dF h'.bx (h.bx.length+3) [.sl τ l' sc,.int .i64 ra,.int .i64 rc,.int .i64 ri,.bool false])[h.bx.length+1]? = some [.int .i64 Da,.int .i64 Db]:=by rw[zk,afU (by omega)];exact e1
  have n2:(dF h'.bx (h.bx.length+3) [.sl τ l' sc,.int .i64 ra,.int .i64 rc,.int .i64 ri,.bool false])[h.bx.length+2]? = some [.ref (h.bx.length+3) 0]:=by rw[zk,afU (by omega)];exact e2
  have n3:(dF h'.bx (h.bx.length+3) [.sl τ l' sc,.int .i64 ra,.int .i64 rc,.int .i64 ri,.bool false])[h.bx.length+3]? = some [.sl τ l' sc,.int .i64 ra,.int .i64 rc,.int .i64 ri,.bool false]:=by rw[zk,agH,if_pos rfl,if_pos q3]
  obtain⟨kd,sd⟩:=sb.AF (a:=ra) (c:=rc) (i:=ri) p0 p1 n0 n1;have ke:=bg.fB (vm _) (fun b o x=>(sd.ec b o x).1) (fun _ _ _=>by simp);have se:=sd.gH (vm _);obtain⟨o3,o2,o1,o0⟩:=HO (C:=[.int .i64 ra]) (D:=[.int .i64 rc,.int .i64 ri]) n3 n2 n1 n0;obtain⟨_,t0,t1,t2,t3,t4,tn,W_,Xa,_,_,_,_,_,_,_,_⟩:=facts xx se o3 o2 o1 o0;simp only[Exit.then,bodyPostD];refine leaves_cons (f:=96) (args:=#[.pointer (some ⟨w3.heap.size+1,0,none⟩),.pointer (some ⟨w.heap.size,0,none⟩),.pointer (some ⟨w.heap.size+1,0,none⟩)]) (by simp) (by simp[go_sem]) ?_;refine(zni _ _ _ _ ra rc ri C' Da Db rt _ kv kc1 kc2 kc3 kc4 kn C_ Fc zc4 zn Fa Fb d1 d2 (by omega) (by omega) d5 d6).mono ?_
  rintro e u' w2 ⟨rfl,rfl,rfl⟩
  refine⟨.tuple #[.int .i64 ra,.agg #[.int .i64 rc,.int .i64 ri]],?_,?_⟩
  ·exact zhl tn W_ Xa rfl rfl
  ·have yx:=y6.trans (xx.mono (jG y6));exact⟨_,G',_,yx,(((((z6.trans y6.D kx).trans yx.D ka).trans yx.D kb)).trans yx.D kd).trans yx.D ke,se,zqp _ _ _ _ _,hk⟩
end Go.AM
namespace Go.Proofs
open Go.RowKit Go.AM
set_option maxHeartbeats 6400000 in
set_option maxRecDepth 100000 in
theorem Tryz.vW(w:World):Calls Tryz.prog 160 #[] w fun e w'=>e = .returned (.map (some w.heap.size))∧w'=w.alloc (.map jx 4):=by
 have mixed:Tryz.prog.follows .mixedOrders:=by kernel_rfl
 have h0:(Instr.makeMap 226 none).run Tryz.prog w = .ok (.map (some w.heap.size)) (w.alloc (.map #[] 0)):=rfl;have up:=fun es c key v h=>zfo (P:=Tryz.prog) (t:=226) (k:=3) (e:=9) Tryz.underlying226 Tryz.underlying3 w es c key v h;have h1:=up #[] 0 1 (.string ⟨#[99]⟩) (by simp);have h2:=up #[⟨.int .i64 1,.string ⟨#[99]⟩,0⟩] 1 2 (.string ⟨#[103]⟩) (by simp);have h3:=up #[⟨.int .i64 1,.string ⟨#[99]⟩,0⟩,⟨.int .i64 2,.string ⟨#[103]⟩,1⟩] 2 3 (.string ⟨#[109,115]⟩) (by simp);have h4:=up #[⟨.int .i64 1,.string ⟨#[99]⟩,0⟩,⟨.int .i64 2,.string ⟨#[103]⟩,1⟩,⟨.int .i64 3,.string ⟨#[109,115]⟩,2⟩] 3 4 (.string ⟨#[104]⟩) (by simp);clear up;simp only[List.push_toArray,agz,agt]at h1 h2 h3 h4
 go_enter Tryz.func160,Tryz.ntmps160
 go_wp2
 go_ret
 exact⟨rfl,rfl⟩
set_option maxHeartbeats 6400000 in
set_option maxRecDepth 100000 in
theorem Tryz.AY(k:Int)(w:World):Calls Tryz.prog 97 #[.int .i64 k] w fun e w'=>e = .returned (.tuple #[.string ⟨(fL k).toArray⟩,.int .i64 (np k)])∧Below w.heap.size w w':=by
 have mixed:Tryz.prog.follows .mixedOrders:=by kernel_rfl
 have e1:∀args w,(callFunc 160 args).run Tryz.prog w = .ok (.enter 160 args) w:=enters_of Tryz.func160 (by kernel_rfl) rfl;have hz:∀w',(zeroValue 9).run Tryz.prog w' = .ok (.string ⟨#[]⟩) w':=fun w'=>by rfl
 obtain⟨v,b,hv,hb,hvb,hl⟩:∃(v:List UInt8)(b:Bool),v=fL k∧b=decide (k=1∨k=2∨k=3∨k=4)∧(b=false→v=[])∧(Instr.lookup 226 (.map (some w.heap.size)) (.int .i64 k) true).run Tryz.prog (w.alloc (.map jx 4)) = .ok (.tuple #[.string ⟨v.toArray⟩,.bool b]) (w.alloc (.map jx 4)):=by
  by_cases h1:k=1
  ·subst h1;exact⟨[99],true,rfl,rfl,(fun h=>by cases h),Mk (P:=Tryz.prog) (k:=3) (e:=9) Tryz.underlying226 Tryz.underlying3 w jx 4 1 (i:=0) rfl rfl⟩
  by_cases h2:k=2
  ·subst h2;exact⟨[103],true,rfl,rfl,(fun h=>by cases h),Mk (P:=Tryz.prog) (k:=3) (e:=9) Tryz.underlying226 Tryz.underlying3 w jx 4 2 (i:=1) rfl rfl⟩
  by_cases h3:k=3
  ·subst h3;exact⟨[109,115],true,rfl,rfl,(fun h=>by cases h),Mk (P:=Tryz.prog) (k:=3) (e:=9) Tryz.underlying226 Tryz.underlying3 w jx 4 3 (i:=2) rfl rfl⟩
  by_cases h4:k=4
  ·subst h4;exact⟨[104],true,rfl,rfl,(fun h=>by cases h),Mk (P:=Tryz.prog) (k:=3) (e:=9) Tryz.underlying226 Tryz.underlying3 w jx 4 4 (i:=3) rfl rfl⟩
  refine⟨[],false,?_,?_,(fun _=>rfl),zl5 (P:=Tryz.prog) (k:=3) (e:=9) Tryz.underlying226 Tryz.underlying3 w jx 4 k ?_ hz⟩
  ·unfold fL;rw[if_neg h1,if_neg h2,if_neg h3,if_neg h4]
  ·simp[h1,h2,h3,h4]
  ·intro x hx;simp only[jx,List.mem_cons,List.mem_nil_iff,or_false]at hx;rcases hx with rfl|rfl|rfl|rfl
   ·exact⟨1,rfl,agq h1⟩
   ·exact⟨2,rfl,agq h2⟩
   ·exact⟨3,rfl,agq h3⟩
   ·exact⟨4,rfl,agq h4⟩
 have hE:np k=if b then 0 else 16:=by subst hb;unfold np;simp
 rw[←hv,hE];clear hv hE hb hz;cases b
 ·obtain rfl:=hvb rfl
  go_enter Tryz.func97,Tryz.ntmps97
  go_wp2_with (go_at_fn 160;refine(Tryz.vW _).mono ?_;rintro e w' ⟨rfl,rfl⟩)
  all_goals go_ret2
  all_goals exact⟨rfl,zk6 _⟩
 ·go_enter Tryz.func97,Tryz.ntmps97
  go_wp2_with (go_at_fn 160;refine(Tryz.vW _).mono ?_;rintro e w' ⟨rfl,rfl⟩)
  all_goals go_ret2
  all_goals exact⟨rfl,zk6 _⟩
end Go.Proofs
set_option maxRecDepth 100000
namespace Go.AM
open Go.Proofs Go.RowKit
open Go.Proofs.YtodkiaiclgdifaaGreatDoor
def SI:World→Prop:=AE Tryz.prog Rows.splitApartRow.laid
def SW:World→Prop:=cg SI
theorem HP {w : World} (h : SW w) : Lib.TabIs Tryz.prog w (Rows.splitApartRow.laid.getD 2 ("", .nil)).1 .u64 Lib.pow10Tab := by
 obtain⟨w0,h1,h2,h3⟩:=h;exact z3y (zxg h1 (by kernel_rfl) 2 (by kernel_rfl) (g:=1) (by kernel_rfl) (by kernel_rfl) Tryz.underlying312 Tryz.underlying88 (by kernel_rfl) (by kernel_rfl)) h2 h3
theorem Mx{w:World}(h:SW w):∃ev,w.cell? ⟨6,0,none⟩=some ev∧(ev = .nilIface∨∃te pe,ev = .iface te pe):=by obtain⟨w0,h1,h2,h3⟩:=h;obtain⟨ev,a,b⟩:=zi6 h1 (by kernel_rfl) 5 rfl (g:=6) (by kernel_rfl) (by kernel_rfl) Tryz.underlying178;exact⟨ev,zqo a h3,b⟩
theorem My{w:World}(h:SW w):∃ev,w.cell? ⟨7,0,none⟩=some ev∧(ev = .nilIface∨∃te pe,ev = .iface te pe):=by obtain⟨w0,h1,h2,h3⟩:=h;obtain⟨ev,a,b⟩:=zi6 h1 (by kernel_rfl) 4 rfl (g:=7) (by kernel_rfl) (by kernel_rfl) Tryz.underlying178;exact⟨ev,zqo a h3,b⟩
theorem mixed:Tryz.prog.follows .mixedOrders=true:=by kernel_rfl
abbrev V0:SV:=.int .i64
abbrev V1:SV:=.sl Y2 .eY
abbrev V2:SV:=.sl Y3 .eY
abbrev r0:List SV:=[.str,V0,V1,V0,V2,V0]
abbrev v1:SV:=.const (.ref 0 0)
abbrev e3:List (Nat×SV):=[(2,.bool)]
abbrev V3:SV:=.agg [.str,V0,V1,V0,V2,V0]
abbrev V4:SV:=.sl Y6 .eY
abbrev V5:SV:=.sl .str .eY
abbrev jA:List (List SV):=[[V5],[V0],[(.sl (.sl .u8) (.own 1))]]
abbrev t11:List Bool:=[true,true]
abbrev v12:SV:=.const (.yield 0)
abbrev jN:SV:=.const (.ref 1 0)
abbrev Dc:SV:=.sl .u8 (.own 0)
abbrev mg:SV:=.const (.ref 2 0)
abbrev V6:SV:=.sl (.sl .u8) .eY
abbrev V7:SV:=.sl .u8 .eY
abbrev V8:SV:=.int .u64
abbrev vn:List SV:=[.bool,V8,V0]
abbrev hZ:List (List SV):=[vn,vn]
abbrev V9:SV:=.agg [.bool,V8,V0]
abbrev wN:SV:=.int .u8
abbrev e25:List (Nat×SV):=[(4,V0),(5,V0)]
abbrev qt:SV:=.agg [V0,V0]
abbrev Mz:SV:=.agg [.str,.str]
abbrev V13:SV:=.agg [(.fn 124 [V3] []),V0,(.fn 125 [V3] []),V0,(.fn 126 [V3] []),V0,(.fn 127 [V3] []),V0,(.fn 128 [V3] []),V0,(.fn 129 [V3] []),V0]
abbrev Xb:List SV:=[(.row Y3)]
abbrev yS:List (List SV):=[Xb,Xb,Xb]
abbrev Fe:List SV:=[.str,V0,(.sl Y2 (.own 0)),V0,(.sl Y3 (.own 1)),V0]
abbrev r38:List SV:=[(.row Y2)]
abbrev b39:List (List SV):=[r0,Fe,r38,r38]
abbrev v42:SV:=.sl Y6 (.own 0)
abbrev MA:SV:=.sl Y6 (.own 1)
abbrev Xc:List (List SV):=[[v42],[V0],[V0],[MA],[V4],[(.const (.fn 28 [] []))]]
abbrev v46:SV:=.const (.ref 5 0)
abbrev e47:List (Nat×SV):=[(0,v12),(2,v46),(8,V4),(9,V0),(10,V0)]
abbrev v48:SV:=.const (.ref 3 0)
abbrev yT:SV:=.int .u32
abbrev v56:SV:=.const (.gq 0)
abbrev t59:List Bool:=[true,true,true]
abbrev v62:SV:=.sl .str (.own 1)
abbrev MB:List SV:=[v62,v56]
abbrev Xd:List (List SV):=[[.mp],MB]
abbrev v67:SV:=.sl .u8 (.own 2)
abbrev v68:SV:=.const (.fn 74 [] [(.ref 5 0),(.ref 4 0)])
abbrev MC:List (List SV):=[[.mp],MB,r0,r0,[v67],[V0],[v68]]
abbrev v70:SV:=.const (.ref 4 0)
abbrev x8:SV:=.const (.ref 6 0)
abbrev v72:SV:=.const (.fn 75 [] [(.ref 6 0)])
abbrev AZ:List SV:=[.str,.str]
abbrev v77:SV:=.const (.ref 7 0)
abbrev Xe:List (List SV):=[[(.sl .bool (.own 0))],[V0],[V0],[(.sl .bool (.own 1))],[V4],[(.const (.fn 149 [] []))]]
abbrev HQ:SV:=.const (.wq [(1,145),(2,146),(3,147),(4,146)])
abbrev V15:SV:=.agg [.str,.str,.str,.str,.str,.str]
abbrev HR:SV:=.sl .str (.own 0)
abbrev HS:List (List SV):=[r0,[(.row (.iX 5))],[(.const (.ea 2 176)),(.ms 1 (.iX 5))],[V0]]
abbrev N4:SV:=.const (.fn 108 [] [(.ref 3 0),(.ref 2 0)])
abbrev DW:List SV:=[(.const (.fn 51 [] [])),(.const (.fn 52 [] []))]
abbrev HT:List (List SV):=[DW,DW]
abbrev HU:List (Nat×SV):=[(1,V0),(13,HR),(48,V4),(49,V0),(50,V0)]
abbrev HV:List (Nat×SV):=[(13,HR)]
abbrev HW:List (Nat×SV):=[(4,HR),(5,V0),(6,V0)]
abbrev DX:List SV:=[(.const (.fn 53 [] [])),(.const (.fn 54 [] []))]
abbrev HX:List (List SV):=[DX,DX]
abbrev DY:List SV:=[(.const (.fn 55 [] [])),(.const (.fn 56 [] []))]
abbrev HY:List (List SV):=[DY,DY]
abbrev vX:List (List SV):=[[V0,V0]]
abbrev V16:SV:=.agg [wN,V0,wN,V0,wN,V0]
abbrev h_:List SV:=[V7,V0,V0,V0,.bool]
abbrev rY:List (List SV):=[[V0,V0],[v42],[V0],[V0,V0],[v46],h_,[v46]]
abbrev iW:List (Nat×SV):=[(0,v46),(1,V0),(2,V0),(11,.bool)]
abbrev qV:List (Nat×SV):=[(0,v46),(1,V0)]
abbrev rZ:List (Nat×SV):=[(0,v46)]
abbrev um:List (Nat×SV):=[(2,wN)]
abbrev vY:List (Nat×SV):=[(5,V8),(6,V0)]
abbrev vZ:List (Nat×SV):=[(2,V8),(3,V0),(4,V0)]
abbrev B4:List (List SV):=[[V0,V0],[v42],[V0],[V0,V0],[v46],h_]
abbrev iJ:List SV:=[v62,(.const (.gq 6))]
abbrev v146:SV:=.sl Y2 (.own 2)
abbrev ia:List SV:=[.str,V0,v146,V0,(.sl Y3 (.own 3)),V0]
abbrev jl:List SV:=[.str,V0,(.sl Y2 (.own 4)),V0,(.sl Y3 (.own 5)),V0]
abbrev HZ:List (List SV):=[[V0,V0],[v42],[V0],[V0,V0],[v46],h_,[.mp],iJ,[v46],ia,jl,[v77],[v46],[V0],[V0],[V0],[V0,V0],[V0,V0],[V0]]
abbrev t153:List Bool:=[true,true,true,true,true,true]
abbrev r8:List (List SV):=[[V0,V0],[v42],[V0],[V0,V0],[v46],h_,[.mp],iJ,[v46],ia,jl,[v77],[v46],[V0],[V0],[V0],[V0,V0],[V0,V0],[V0],[v46]]
abbrev v7:List (List SV):=[[V0,V0],[v42],[V0],[V0,V0],[v46],h_,[.mp],iJ,[v46],ia,jl,[v77],[v46],[V0],[V0],[V0],[V0,V0],[V0,V0],[V0],[V0,V0]]
abbrev r9:List (List SV):=[[V0,V0],[v42],[V0],[V0,V0],[v46],h_,[.mp],iJ,[v46],ia,jl,[v77],[v46],[V0],[V0],[V0],[V0,V0],[V0,V0],[V0],[V0,V0],[v46]]
abbrev N5:List (Nat×SV):=[(0,(.const (.fn 83 [] [(.ref 20 0)]))),(5,V8),(6,V0)]
abbrev N6:List (Nat×SV):=[(1,(.const (.ref 20 0)))]
abbrev DZ:List (List SV):=[[V0,V0],[v42],[V0],[V0,V0],[v46],h_,[.mp],iJ,[v46],ia,jl,[v77],[v46],[V0],[V0],[V0],[V0,V0],[V0,V0],[V0],[V0,V0],[V0]]
abbrev D0:List (List SV):=[[V0,V0],[v42],[V0],[V0,V0],[v46],h_,[.mp],iJ,[v46],ia,jl,[v77],[v46],[V0],[V0],[V0],[V0,V0],[V0,V0],[V0],[V0,V0],[V0],[V0,V0]]
abbrev D1:List (Nat×SV):=[(8,.bool)]
abbrev N7:List (Nat×SV):=[(0,v77),(1,v46),(2,V0),(3,V0),(10,V8)]
abbrev D3:List (Nat×SV):=[(8,.str)]
abbrev N8:List (Nat×SV):=[(0,v77),(1,v46),(2,V0),(3,V0)]
abbrev v8:List (List SV):=[[V0,V0],[v42],[V0],[V0,V0],[v46],h_,[.mp],iJ,[v46],ia,jl,[v77],[v46],[V0],[V0],[V0]]
abbrev N9:List (Nat×SV):=[(0,v77),(1,v46),(2,V0)]
abbrev N_:List (Nat×SV):=[(6,.str)]
abbrev v_:SV:=.const (.ref 11 0)
abbrev v182:SV:=.const (.ref 12 0)
abbrev v183:SV:=.const (.ref 13 0)
abbrev H0:SV:=.const (.ref 14 0)
abbrev Oa:SV:=.const (.ref 15 0)
abbrev Ob:List (Nat×SV):=[(5,V0),(6,v_),(7,v182),(8,v183),(9,H0),(10,Oa)]
abbrev mz:List (List SV):=[[V0,V0],[v42],[V0],[V0,V0],[v46],h_,[.mp],iJ,[v46],ia,jl]
abbrev H2:List (Nat×SV):=[(12,.str)]
abbrev r_:List (List SV):=[[V0,V0],[v42],[V0],[V0,V0],[v46],h_,[.mp],iJ,[v46],ia,jl,[v46],[V0],[V0],[v46]]
abbrev zG:List (List SV):=[[V0,V0],[v42],[V0],[V0,V0],[v46],h_,[.mp],iJ,[v46],ia,jl,[v46],[V0],[V0]]
abbrev sf:List (List SV):=[[V0,V0],[v42],[V0],[V0,V0],[v46],h_,[.mp],iJ,[v46],ia,jl,vn,[v46]]
abbrev H3:List (List SV):=[[V0,V0],[v42],[V0],[V0,V0],[v46],h_,[.mp],iJ,[v46],ia,jl,vn]
abbrev sg:List (List SV):=[[V0,V0],[v42],[V0],[V0,V0],[v46],h_,[.mp],iJ,[v46],ia,jl,vn,vn,[v46]]
abbrev Oc:List (List SV):=[[V0,V0],[v42],[V0],[V0,V0],[v46],h_,[.mp],iJ,[v46],ia,jl,vn,vn,[V0,V0]]
abbrev qW:SV:=.const (.ref 8 0)
abbrev pW:SV:=.const (.ref 9 0)
abbrev si:SV:=.const (.ref 10 0)
abbrev H4:List (List SV):=[[V0,V0],[v42],[V0],[V0,V0],[v46],h_,[.mp],iJ,[v46],ia,jl,AZ,[v77],[v46],[V0],[V0],[V0],[V0,V0],[V0,V0],[V0]]
abbrev sj:List (List SV):=[[V0,V0],[v42],[V0],[V0,V0],[v46],h_,[.mp],iJ,[v46],ia,jl,AZ,[v77],[v46],[V0],[V0],[V0],[V0,V0],[V0,V0],[V0],[v46]]
abbrev wa:List (List SV):=[[V0,V0],[v42],[V0],[V0,V0],[v46],h_,[.mp],iJ,[v46],ia,jl,AZ,[v77],[v46],[V0],[V0],[V0],[V0,V0],[V0,V0],[V0],[V0,V0]]
abbrev sk:List (List SV):=[[V0,V0],[v42],[V0],[V0,V0],[v46],h_,[.mp],iJ,[v46],ia,jl,AZ,[v77],[v46],[V0],[V0],[V0],[V0,V0],[V0,V0],[V0],[V0,V0],[v46]]
abbrev D4:List (List SV):=[[V0,V0],[v42],[V0],[V0,V0],[v46],h_,[.mp],iJ,[v46],ia,jl,AZ,[v77],[v46],[V0],[V0],[V0],[V0,V0],[V0,V0],[V0],[V0,V0],[V0]]
abbrev D5:List (List SV):=[[V0,V0],[v42],[V0],[V0,V0],[v46],h_,[.mp],iJ,[v46],ia,jl,AZ,[v77],[v46],[V0],[V0],[V0],[V0,V0],[V0,V0],[V0],[V0,V0],[V0],[V0,V0]]
abbrev x_:List (List SV):=[[V0,V0],[v42],[V0],[V0,V0],[v46],h_,[.mp],iJ,[v46],ia,jl,AZ,[v77],[v46],[V0],[V0],[V0]]
abbrev ya:List (List SV):=[[V0,V0],[v42],[V0],[V0,V0],[v46],h_,[.mp],iJ,[v46],ia,jl,AZ]
abbrev Od:List (List SV):=[[V0,V0],[v42],[V0],[V0,V0],[v46],h_,[.mp],iJ,[v46],ia]
abbrev t248:List Bool:=[true,true,true,true]
abbrev B5:List (List SV):=[[V0,V0],[v42],[V0],[V0,V0],[v46],h_,[.mp],iJ]
abbrev Oe:List (List SV):=[[.str],[V0,V0],[V0]]
abbrev Of:List (List SV):=[vn,[V0,V0],[V0,V0],vn]
abbrev Og:List (List SV):=[[V0,V0],[V0,V0]]
abbrev V17:SV:=.agg [wN,wN]
abbrev Oh:List (List SV):=[[V0,V0],[V0,V0],[V0,V0],[V0]]
abbrev D6:List (List SV):=[[.str],Fe,[V0,V0],[V0],ia]
abbrev H5:List (List SV):=[[.str],Fe,[V0,V0],[V0],ia,vn,[V0,V0]]
abbrev D7:SV:=.const (.fn 100 [] [(.ref 3 0),(.ref 0 0)])
abbrev H6:SV:=.sl Y3 (.own 0)
abbrev Oi:List SV:=[.str,V0,v146,V0,V2,V0,V0,V0]
abbrev D8:List (List SV):=[Fe,[V0,V0],Oi,[V0,V0],[V0,V0]]
abbrev V18:SV:=.agg [.str,(.const (.fn 179 [(.ref 2 0)] [])),.str,(.const (.fn 180 [(.ref 2 0)] [])),.str,(.const (.fn 181 [(.ref 2 0)] []))]
abbrev Oj:List (List SV):=[Fe,[V0,V0],Oi,[V0,V0]]
abbrev Ol:SV:=.const (.gp 2 [(.fn 115 [(.ref 2 0)] []),(.fn 116 [(.ref 2 0)] [])])
abbrev H7:List (List SV):=[Fe,[V0,V0],ia,[V0,V0],[.str]]
abbrev H8:List (List SV):=[[V0],[v42],[V0,V0],DW,DW,[MA],[V0],[.str]]
abbrev H9:List (Nat×SV):=[(0,v12),(1,v77)]
abbrev H_:List (List SV):=[[V0],[v42],[V0,V0],DX,DX,[MA],[V0],[.str]]
abbrev H':List (List SV):=[[V0],[v42],[V0,V0],DY,DY,[MA],[V0],[.str]]
def tab:Tree TI:=.node 136 (.node 67 (.node 37 (.node 25 (.node 9 (.node 4 (.one 3 ⟨.int .i64,1,8,false,[(.int .i64 (0:Int))],some Y1,false⟩) (.node 5 (.one 4 ⟨.bool,1,1,false,[(.bool false)],some .bool,false⟩) (.one 5 ⟨.int .u8,1,1,false,[(.int .u8 (0:Int))],some .u8,false⟩))) (.node 22 (.one 9 ⟨.str,1,16,false,[(.str [])],some .str,false⟩) (.node 24 (.one 22 ⟨.slice 45,1,24,false,[.sl Y6 [] .full],some Y7,false⟩) (.one 24 ⟨.func,1,8,false,[.bl],none,false⟩)))) (.node 29 (.node 26 (.one 25 ⟨.slice 35,1,24,false,[.sl (.sl .u8) [] .full],some (.sl (.sl .u8)),false⟩) (.node 27 (.one 26 ⟨.int .i64,1,8,false,[(.int .i64 (0:Int))],some Y1,false⟩) (.one 27 ⟨.other,1,0,false,[.any],none,false⟩))) (.node 33 (.node 32 (.one 29 ⟨.other,1,0,false,[.any],none,false⟩) (.one 32 ⟨.struct [(0,26),(1,3)],2,16,true,[(.int .i64 (0:Int)),(.int .i64 (0:Int))],some Y8,true⟩)) (.node 35 (.one 33 ⟨.other,1,0,false,[.any],none,false⟩) (.one 35 ⟨.slice 5,1,24,false,[.sl .u8 [] .full],some (.sl .u8),false⟩))))) (.node 53 (.node 45 (.node 42 (.one 37 ⟨.other,1,0,false,[.any],none,false⟩) (.node 43 (.one 42 ⟨.slice 115,1,24,false,[.sl Y2 [] .full],some Y4,false⟩) (.one 43 ⟨.slice 78,1,24,false,[.sl Y3 [] .full],some Y5,false⟩))) (.node 50 (.node 46 (.one 45 ⟨.struct [(0,9),(1,3),(2,42),(3,3),(4,43),(5,3)],6,88,true,[(.str []),(.int .i64 (0:Int)),.sl Y2 [] .full,(.int .i64 (0:Int)),.sl Y3 [] .full,(.int .i64 (0:Int))],some Y6,false⟩) (.one 46 ⟨.slice 9,1,24,false,[.sl .str [] .full],some (.sl .str),false⟩)) (.node 51 (.one 50 ⟨.func,1,8,false,[.bl],none,false⟩) (.one 51 ⟨.other,1,0,false,[.any],none,false⟩)))) (.node 60 (.node 55 (.one 53 ⟨.other,1,0,false,[.any],none,false⟩) (.node 58 (.one 55 ⟨.other,1,0,false,[.any],none,false⟩) (.one 58 ⟨.other,1,0,false,[.any],none,false⟩))) (.node 63 (.node 61 (.one 60 ⟨.func,1,8,false,[.bl],none,false⟩) (.one 61 ⟨.func,1,8,false,[.bl],none,false⟩)) (.node 64 (.one 63 ⟨.struct [(0,60),(1,61)],2,16,true,[.bl,.bl],none,false⟩) (.one 64 ⟨.other,1,0,false,[.any],none,false⟩)))))) (.node 99 (.node 82 (.node 74 (.node 69 (.one 67 ⟨.func,1,8,false,[.bl],none,false⟩) (.node 71 (.one 69 ⟨.other,1,0,false,[.any],none,false⟩) (.one 71 ⟨.other,1,0,false,[.any],none,false⟩))) (.node 76 (.one 74 ⟨.func,1,8,false,[.bl],none,false⟩) (.node 78 (.one 76 ⟨.func,1,8,false,[.bl],none,false⟩) (.one 78 ⟨.struct [(0,9),(1,9)],2,32,true,[(.str []),(.str [])],some Y3,true⟩)))) (.node 89 (.node 85 (.one 82 ⟨.func,1,8,false,[.bl],none,false⟩) (.node 88 (.one 85 ⟨.ptr,1,8,false,[.fX],none,false⟩) (.one 88 ⟨.int .u64,1,8,false,[(.int .u64 (0:Int))],some Y0,false⟩))) (.node 94 (.node 92 (.one 89 ⟨.other,1,0,false,[.any],none,false⟩) (.one 92 ⟨.int .u32,1,4,false,[(.int .u32 (0:Int))],some Y9,false⟩)) (.node 96 (.one 94 ⟨.other,1,0,false,[.any],none,false⟩) (.one 96 ⟨.other,1,0,false,[.any],none,false⟩))))) (.node 115 (.node 105 (.node 100 (.one 99 ⟨.struct [(0,5),(1,26)],2,16,true,[(.int .u8 (0:Int)),(.int .i64 (0:Int))],some Ms,true⟩) (.node 101 (.one 100 ⟨.arr 3 99,6,48,true,[(.int .u8 (0:Int)),(.int .i64 (0:Int)),(.int .u8 (0:Int)),(.int .i64 (0:Int)),(.int .u8 (0:Int)),(.int .i64 (0:Int))],some Y11,false⟩) (.one 101 ⟨.ptr,1,8,false,[.fX],none,false⟩))) (.node 108 (.node 106 (.one 105 ⟨.func,1,8,false,[.bl],none,false⟩) (.one 106 ⟨.func,1,8,false,[.bl],none,false⟩)) (.node 111 (.one 108 ⟨.func,1,8,false,[.bl],none,false⟩) (.one 111 ⟨.func,1,8,false,[.bl],none,false⟩)))) (.node 127 (.node 116 (.one 115 ⟨.struct [(0,4),(1,88),(2,3)],3,24,true,[(.bool false),(.int .u64 (0:Int)),(.int .i64 (0:Int))],some Y2,true⟩) (.node 124 (.one 116 ⟨.other,1,0,false,[.any],none,false⟩) (.one 124 ⟨.func,1,8,false,[.bl],none,false⟩))) (.node 131 (.node 129 (.one 127 ⟨.map 9 3,1,8,false,[.any],none,false⟩) (.one 129 ⟨.struct [(0,46),(1,127)],2,32,true,[.sl .str [] .full,.any],none,false⟩)) (.node 132 (.one 131 ⟨.func,1,8,false,[.bl],none,false⟩) (.one 132 ⟨.func,1,8,false,[.bl],none,false⟩))))))) (.node 199 (.node 176 (.node 149 (.node 142 (.node 137 (.one 136 ⟨.func,1,8,false,[.bl],none,false⟩) (.node 138 (.one 137 ⟨.other,1,0,false,[.any],none,false⟩) (.one 138 ⟨.map 3 136,1,8,false,[.any],none,false⟩))) (.node 143 (.one 142 ⟨.struct [(0,45)],6,88,true,[(.str []),(.int .i64 (0:Int)),.sl Y2 [] .full,(.int .i64 (0:Int)),.sl Y3 [] .full,(.int .i64 (0:Int))],some Y12,false⟩) (.node 145 (.one 143 ⟨.other,1,0,false,[.any],none,false⟩) (.one 145 ⟨.other,1,0,false,[.any],none,false⟩)))) (.node 166 (.node 151 (.one 149 ⟨.func,1,8,false,[.bl],none,false⟩) (.node 164 (.one 151 ⟨.struct [(0,35),(1,3),(2,32),(4,4)],5,56,true,[.sl .u8 [] .full,(.int .i64 (0:Int)),(.int .i64 (0:Int)),(.int .i64 (0:Int)),(.bool false)],some Y13,false⟩) (.one 164 ⟨.other,1,0,false,[.any],none,false⟩))) (.node 170 (.node 167 (.one 166 ⟨.func,1,8,false,[.bl],none,false⟩) (.one 167 ⟨.other,1,0,false,[.any],none,false⟩)) (.node 174 (.one 170 ⟨.other,1,0,false,[.any],none,false⟩) (.one 174 ⟨.ptr,1,8,false,[.fX],none,false⟩))))) (.node 187 (.node 181 (.node 178 (.one 176 ⟨.struct [(0,174),(1,35)],2,32,true,[.fX,.sl .u8 [] .full],none,false⟩) (.node 179 (.one 178 ⟨.iface,1,16,false,[(.err false)],none,false⟩) (.one 179 ⟨.other,1,0,false,[.any],none,false⟩))) (.node 184 (.node 182 (.one 181 ⟨.func,1,8,false,[.bl],none,false⟩) (.one 182 ⟨.other,1,0,false,[.any],none,false⟩)) (.node 185 (.one 184 ⟨.func,1,8,false,[.bl],none,false⟩) (.one 185 ⟨.ptr,1,8,false,[.fX],none,false⟩)))) (.node 192 (.node 189 (.one 187 ⟨.struct [(0,45),(6,3),(7,3)],8,104,true,[(.str []),(.int .i64 (0:Int)),.sl Y2 [] .full,(.int .i64 (0:Int)),.sl Y3 [] .full,(.int .i64 (0:Int)),(.int .i64 (0:Int)),(.int .i64 (0:Int))],some Y14,false⟩) (.node 190 (.one 189 ⟨.func,1,8,false,[.bl],none,false⟩) (.one 190 ⟨.slice 189,1,24,false,[.fe],none,false⟩))) (.node 197 (.node 195 (.one 192 ⟨.func,1,8,false,[.bl],none,false⟩) (.one 195 ⟨.struct [(0,3),(1,9),(2,4)],3,32,true,[(.int .i64 (0:Int)),(.str []),(.bool false)],some Y15,true⟩)) (.node 198 (.one 197 ⟨.ptr,1,8,false,[.fX],none,false⟩) (.one 198 ⟨.func,1,8,false,[.bl],none,false⟩)))))) (.node 235 (.node 214 (.node 204 (.node 202 (.one 199 ⟨.other,1,0,false,[.any],none,false⟩) (.node 203 (.one 202 ⟨.struct [(0,45)],6,88,true,[(.str []),(.int .i64 (0:Int)),.sl Y2 [] .full,(.int .i64 (0:Int)),.sl Y3 [] .full,(.int .i64 (0:Int))],some Y12,false⟩) (.one 203 ⟨.struct [(0,24),(1,26)],2,16,true,[.bl,(.int .i64 (0:Int))],none,false⟩))) (.node 207 (.one 204 ⟨.arr 6 203,12,96,true,[.bl,(.int .i64 (0:Int)),.bl,(.int .i64 (0:Int)),.bl,(.int .i64 (0:Int)),.bl,(.int .i64 (0:Int)),.bl,(.int .i64 (0:Int)),.bl,(.int .i64 (0:Int))],none,false⟩) (.node 209 (.one 207 ⟨.func,1,8,false,[.bl],none,false⟩) (.one 209 ⟨.other,1,0,false,[.any],none,false⟩)))) (.node 218 (.node 215 (.one 214 ⟨.slice 4,1,24,false,[.sl .bool [] .full],some (.sl .bool),false⟩) (.node 217 (.one 215 ⟨.other,1,0,false,[.any],none,false⟩) (.one 217 ⟨.func,1,8,false,[.bl],none,false⟩))) (.node 223 (.node 222 (.one 218 ⟨.other,1,0,false,[.any],none,false⟩) (.one 222 ⟨.func,1,8,false,[.bl],none,false⟩)) (.node 233 (.one 223 ⟨.func,1,8,false,[.bl],none,false⟩) (.one 233 ⟨.arr 2 5,2,2,true,[(.int .u8 (0:Int)),(.int .u8 (0:Int))],some Y16,false⟩))))) (.node 251 (.node 243 (.node 236 (.one 235 ⟨.func,1,8,false,[.bl],none,false⟩) (.node 242 (.one 236 ⟨.arr 6 9,6,96,true,[(.str []),(.str []),(.str []),(.str []),(.str []),(.str [])],some Y17,false⟩) (.one 242 ⟨.func,1,8,false,[.bl],none,false⟩))) (.node 245 (.node 244 (.one 243 ⟨.struct [(0,9),(1,242)],2,24,true,[(.str []),.bl],none,false⟩) (.one 244 ⟨.arr 3 243,6,72,true,[(.str []),.bl,(.str []),.bl,(.str []),.bl],none,false⟩)) (.node 246 (.one 245 ⟨.func,1,8,false,[.bl],none,false⟩) (.one 246 ⟨.other,1,0,false,[.any],none,false⟩)))) (.node 259 (.node 253 (.one 251 ⟨.func,1,8,false,[.bl],none,false⟩) (.node 257 (.one 253 ⟨.func,1,8,false,[.bl],none,false⟩) (.one 257 ⟨.func,1,8,false,[.bl],none,false⟩))) (.node 292 (.node 277 (.one 259 ⟨.func,1,8,false,[.bl],none,false⟩) (.one 277 ⟨.other,1,0,false,[.any],none,false⟩)) (.node 293 (.one 292 ⟨.func,1,8,false,[.bl],none,false⟩) (.one 293 ⟨.other,1,0,false,[.any],none,false⟩)))))))
theorem z30:tab.all (DR Tryz.prog)=true:=by kernel_rfl
abbrev FO(g:Nat)(ps:List SV)(rv:RV)(f:zE ps (Option rv.den)):Prop:=kI Tryz.prog SW g ps rv (DS ps f)
theorem mx{X:Type}{fns:List (Nat×Func)}{C:List (Nat×(List AV→Option Entry))}{loops:List (Nat×Nat×List (bm X))}{lr:List (Nat×Nat×Func×List Nat×Nat)}
 {conf : List (Nat × Nat × List (Nat × Nat))} {lG : List (Nat × Nat × Nat)} {pQ : List (Nat × Nat × List (ar X))} {rows : List (Nat × Ty)} {pr : List (Nat × Pr)} {bt : Option (Nat × Nat)} {eJ : List Nat} (hf : lj (fun p => Tryz.prog.funcs[p.1]? = some p.2 ∧ p.2.name ≠ "runtime.NumGoroutine") fns)
 (hC:lj (fun p=>mc Tryz.prog SW p.1 p.2) C) (hc:lj (fun p=>lA (bc tab.get fns C loops lr conf lG pQ rows pr bt eJ) p.1 p.2.ntmps (p.2.body.getD .skip)) fns) (hr:lj (fun q=>Tryz.prog.funcs[q.1]? = some q.2.2.1∧AB fns q.1=some q.2.2.1) lr)
 (hp:lj (fun p=>jg Tryz.prog SW p.1 p.2) pr:=by exact trivial):a_ Tryz.prog SW (bc tab.get fns C loops lr conf lG pQ rows pr bt eJ):=z0x mixed (Wz z30) hf hC hc hr hp
def q0:Shape:=⟨[(1,v1),(3,V0)],[r0],[],[],[],1,0,0⟩
def q1:Shape:=⟨[],[r0],[],[],[],1,0,0⟩
def q2:Shape:=⟨e3,[r0],[],[],[],1,0,0⟩
noncomputable def ql1(X:Type)(n:Nat):bm X:=dp 8 0 0 0 q0 [(0,q1)] [q2] n fun m ks=>F.jG.L4 n (xe q1 ks 0) (xr q2 ks) m
noncomputable def Om(X:Type)(n:Nat):Cx X:=bc tab.get [(12,Tryz.f12)] [] [(12,4,[ql1 X n])] [] [] []
theorem qo1(X:Type)(n:Nat):LO (Om X n) 12 Tryz.f12 0 (ql1 X n):=fb
theorem z07(X:Type)(n:Nat):a_ Tryz.prog SW (Om X n):=mx (T1 (J Tryz.func12 (by decide))) trivial (T1 (bd (T1 (T1 (qo1 X n))) trivial)) trivial
abbrev P12:List SV:=[V3]
abbrev R12:RV:=.one .bool
theorem afx(n:Nat):FO 12 P12 R12 (F.jG n):=zg cg.st (z07 _ n) (d:=8) fun _=>by kernel_rfl
noncomputable def o12(n:Nat):=oc 12 P12 R12 (F.jG n)
def q3:Shape:=⟨[(0,V4),(3,V0)],[],[],[],[],0,0,0⟩
def q4:Shape:=⟨[(0,V4)],[],[],[],[],0,0,0⟩
def q5:Shape:=⟨e3,[],[],[],[],0,0,0⟩
noncomputable def ql2(X:Type)(n:Nat):bm X:=dp 8 0 0 0 q3 [(0,q4)] [q5] n fun m ks=>F.nz.L2 n (xe q4 ks 0) (xr q5 ks) m
noncomputable def cx4(X:Type)(n:Nat):Cx X:=bc tab.get [(4,Tryz.f4)] [o12 n] [(4,2,[ql2 X n])] [] [] []
theorem qo2(X:Type)(n:Nat):LO (cx4 X n) 4 Tryz.f4 0 (ql2 X n):=fb
theorem z32(X:Type)(n:Nat):a_ Tryz.prog SW (cx4 X n):=mx (T1 (J Tryz.func4 (by decide))) (T1 (zb (afx n))) (T1 (bd (T1 (T1 (qo2 X n))) trivial)) trivial
abbrev P4:List SV:=[V4]
abbrev R4:RV:=.one .bool
theorem ok4(n:Nat):FO 4 P4 R4 (F.nz n):=zg cg.st (z32 _ n) (d:=8) fun _=>by kernel_rfl
noncomputable def o4(n:Nat):=oc 4 P4 R4 (F.nz n)
noncomputable def afA(X:Type)(n:Nat):Cx X:=bc tab.get [(16,Tryz.f16)] [] [] [] [] []
theorem z08(X:Type)(n:Nat):a_ Tryz.prog SW (afA X n):=mx (T1 (J Tryz.func16 (by decide))) trivial (T1 (bd trivial trivial)) trivial
abbrev P16:List SV:=[V0]
abbrev R16:RV:=.one .bool
theorem On(n:Nat):FO 16 P16 R16 (F.wH n):=zg cg.st (z08 _ n) (d:=8) fun _=>by kernel_rfl
noncomputable def o16(n:Nat):=oc 16 P16 R16 (F.wH n)
abbrev Oo:List SV:=[.str,.str]
abbrev Oq:RV:=.one V0
theorem Ia(n:Nat):FO 138 Oo Oq (O.mM n):=zub (enters Tryz.func138 (by kernel_rfl) (by decide)) Tryz.stringslite_Index_one n
noncomputable def Ot(n:Nat):=oc 138 Oo Oq (O.mM n)
noncomputable def afE(X:Type)(n:Nat):Cx X:=bc tab.get [(67,Tryz.f67)] [Ot n] [] [] [] []
theorem z09(X:Type)(n:Nat):a_ Tryz.prog SW (afE X n):=mx (T1 (J Tryz.func67 (by decide))) (T1 (zb (Ia n))) (T1 (bd trivial trivial)) trivial
abbrev P67:List SV:=[.str,.str]
abbrev R67:RV:=.one V0
theorem afH(n:Nat):FO 67 P67 R67 (F.uc n):=zg cg.st (z09 _ n) (d:=8) fun _=>by kernel_rfl
noncomputable def o67(n:Nat):=oc 67 P67 R67 (F.uc n)
noncomputable def afI(X:Type)(n:Nat):Cx X:=bc tab.get [(31,Tryz.f31)] [o67 n] [] [] [] []
theorem z1a(X:Type)(n:Nat):a_ Tryz.prog SW (afI X n):=mx (T1 (J Tryz.func31 (by decide))) (T1 (zb (afH n))) (T1 (bd trivial trivial)) trivial
abbrev P31:List SV:=[.str,.str]
abbrev R31:RV:=.one .bool
theorem afL(n:Nat):FO 31 P31 R31 (F.qh n):=zg cg.st (z1a _ n) (d:=8) fun _=>by kernel_rfl
noncomputable def o31(n:Nat):=oc 31 P31 R31 (F.qh n)
abbrev P70:List SV:=[V5,.str]
abbrev R70:RV:=.one .str
theorem Ou(n:Nat):FO 70 P70 R70 (O.join n):=z0y (enters Tryz.func70 (by kernel_rfl) (by decide)) Tryz.strings_Join_none Tryz.strings_Join n
noncomputable def o70(n:Nat):=oc 70 P70 R70 (O.join n)
def q6:Shape:=⟨[(0,V5),(1,V0),(12,V5),(13,V0),(14,V0)],[],[],[],[],0,0,0⟩
def q7:Shape:=⟨[(0,V5),(1,V0)],[],[],[],[],0,0,0⟩
def q8:Shape:=⟨[(4,(.sl (.sl .u8) (.own 0))),(5,V0),(6,V0)],[],[true],[],[],0,0,0⟩
noncomputable def ql3(X:Type)(n:Nat):bm X:=dp 8 0 0 0 q6 [(0,q7)] [q8] n fun m ks=>F.zj.L4 n (xe q7 ks 0) (xr q8 ks) m
def q9:Shape:=⟨[(0,v12),(2,jN),(4,Dc),(5,V0),(6,V0),(14,V5),(15,V0),(16,V0)],jA,t11,[.ready],[(0,68,2,[(2,mg)])],3,0,1⟩
def q10:Shape:=⟨[(0,v12),(4,Dc),(5,V0),(6,V0)],jA,t11,[.ready],[],3,0,1⟩
noncomputable def ql4(X:Type)(n:Nat):bm X:=dp 5 3 0 1 q9 [(0,q10)] [] n fun m ks=>F.zj.br n (xe q10 ks 0) m
noncomputable def D9(X:Type)(n:Nat):Cx X:=bc tab.get [(13,Tryz.f13),(32,Tryz.f32),(33,Tryz.f33),(68,Tryz.f68),(69,Tryz.f69)] [o16 n,o31 n,o70 n] [(13,4,[ql3 X n]),(69,3,[ql4 X n])] [(68,2,Tryz.f68,[2],0)] [] []
theorem qo3(X:Type)(n:Nat):LO (D9 X n) 13 Tryz.f13 0 (ql3 X n):=fb
theorem qo4(X:Type)(n:Nat):LO (D9 X n) 69 Tryz.f69 0 (ql4 X n):=fb
theorem z1b(X:Type)(n:Nat):a_ Tryz.prog SW (D9 X n):=mx (J (J Tryz.func13 (by decide)) (J (J Tryz.func32 (by decide)) (J (J Tryz.func33 (by decide)) (J (J Tryz.func68 (by decide)) (T1 (J Tryz.func69 (by decide))))))) (J (zb (On n)) (J (zb (afL n)) (T1 (zb (Ou n))))) (J (bd (T1 (T1 (qo3 X n))) trivial) (J (bd trivial trivial) (J (bd trivial trivial) (J (bd trivial (T1 (Hp (cx:=D9 X n) (g:=68) (i:=2) (lv:=[2]) (show _=some (Tryz.f68.ntmps,_,tZ Tryz.f68 0)by kernel_rfl)))) (T1 (bd (T1 (T1 (qo4 X n))) trivial)))))) (T1 (J Tryz.func68 rfl))
abbrev P13:List SV:=[V5,V0]
abbrev R13:RV:=.many [V6,V0,V0]
theorem Ov(n:Nat):FO 13 P13 R13 (F.zj n):=zg cg.st (z1b _ n) (d:=8) fun _=>by kernel_rfl
noncomputable def o13(n:Nat):=oc 13 P13 R13 (F.zj n)
def q11:Shape:=⟨[(0,V6),(1,V5),(5,V0)],[],[],[],[],0,0,0⟩
def rR:Shape:=⟨[],[],[],[],[],0,0,0⟩
def Ff:Shape:=⟨[(4,.bool)],[],[],[],[],0,0,0⟩
noncomputable def ql5(X:Type)(n:Nat):bm X:=dp 8 0 0 0 q11 [(0,rR)] [Ff] n fun m ks=>F.kL.L4 n (fun _=>xe rR ks 0) (xr Ff ks) m
noncomputable def Ow(X:Type)(n:Nat):Cx X:=bc tab.get [(14,Tryz.f14)] [] [(14,4,[ql5 X n])] [] [] []
theorem qo5(X:Type)(n:Nat):LO (Ow X n) 14 Tryz.f14 0 (ql5 X n):=fb
theorem z1c(X:Type)(n:Nat):a_ Tryz.prog SW (Ow X n):=mx (T1 (J Tryz.func14 (by decide))) trivial (T1 (bd (T1 (T1 (qo5 X n))) trivial)) trivial
abbrev P14:List SV:=[V6,V5]
abbrev R14:RV:=.one .bool
theorem afY(n:Nat):FO 14 P14 R14 (F.kL n):=zg cg.st (z1c _ n) (d:=8) fun _=>by kernel_rfl
noncomputable def o14(n:Nat):=oc 14 P14 R14 (F.kL n)
abbrev P34:List SV:=[V6,V7]
abbrev R34:RV:=.one V7
theorem af1(n:Nat):FO 34 P34 R34 (O.u_ n):=zw9 (enters Tryz.func34 (by kernel_rfl) (by decide)) (fun p c sv w=>⟨_,Tryz.bytes_Join_none p c sv w⟩) Tryz.bytes_Join_one Tryz.bytes_Join_one_empty Tryz.bytes_Join_many n
noncomputable def o34(n:Nat):=oc 34 P34 R34 (O.u_ n)
noncomputable def af2(X:Type)(n:Nat):Cx X:=bc tab.get [(15,Tryz.f15)] [o34 n] [] [] [] []
theorem z1d(X:Type)(n:Nat):a_ Tryz.prog SW (af2 X n):=mx (T1 (J Tryz.func15 (by decide))) (T1 (zb (af1 n))) (T1 (bd trivial trivial)) trivial
abbrev P15:List SV:=[V6]
abbrev R15:RV:=.one V7
theorem af5(n:Nat):FO 15 P15 R15 (F.uX n):=zg cg.st (z1d _ n) (d:=8) fun _=>by kernel_rfl
noncomputable def o15(n:Nat):=oc 15 P15 R15 (F.uX n)
noncomputable def cx5(X:Type)(n:Nat):Cx X:=bc tab.get [(5,Tryz.f5)] [o13 n,o14 n,o15 n] [] [] [] []
theorem z33(X:Type)(n:Nat):a_ Tryz.prog SW (cx5 X n):=mx (T1 (J Tryz.func5 (by decide))) (J (zb (Ov n)) (J (zb (afY n)) (T1 (zb (af5 n))))) (T1 (bd trivial trivial)) trivial
abbrev P5:List SV:=[]
abbrev R5:RV:=.one .bool
theorem ok5(n:Nat):FO 5 P5 R5 (F.nq n):=zg cg.st (z33 _ n) (d:=8) fun _=>by kernel_rfl
noncomputable def o5(n:Nat):=oc 5 P5 R5 (F.nq n)
abbrev Ox:List SV:=[V8,V8]
abbrev Oy:RV:=.many [V8,V8]
theorem Xf(n:Nat):FO 185 Ox Oy (O.va n):=zxe (enters Tryz.func185 (by kernel_rfl) (by decide)) Tryz.bits_Mul64 n
noncomputable def af6(n:Nat):=oc 185 Ox Oy (O.va n)
abbrev Oz:List SV:=[V8,V8,V8]
abbrev OA:RV:=.many [V8,V8]
theorem Xg(n:Nat):FO 186 Oz OA (O.vb n):=zxf (fun x y c hx hy hc w=>by rw[run_callFunc_extern Tryz.func186 (by kernel_rfl) (by kernel_rfl) (by kernel_rfl) (e:=Go.add64Entry) (by kernel_rfl),Go.run_add64 x y c (by omega) (by omega) (by omega) (by omega)];simp only[Result.andThen];congr 5<;>omega) n
noncomputable def af7(n:Nat):=oc 186 Oz OA (O.vb n)
noncomputable def Xh(X:Type)(n:Nat):Cx X:=bc tab.get [(123,Tryz.f123)] [af6 n,af7 n] [] [] [] []
theorem zxh(X:Type)(n:Nat):a_ Tryz.prog SW (Xh X n):=mx (T1 (J Tryz.func123 (by decide))) (J (zb (Xf n)) (T1 (zb (Xg n)))) (T1 (bd trivial trivial)) trivial
abbrev OB:List SV:=[V8,V8]
abbrev OC:RV:=.many [V8,.bool]
theorem Ib(n:Nat):FO 123 OB OC (F.wI n):=zg cg.st (zxh _ n) (d:=8) fun _=>by kernel_rfl
noncomputable def OD(n:Nat):=oc 123 OB OC (F.wI n)
def Fg:Shape:=⟨[(1,v1),(2,jN)],hZ,[],[],[],2,0,0⟩
noncomputable def ql6(X:Type)(n:Nat):bm X:=dp 8 0 0 0 Fg [(0,Fg)] [] n fun m ks=>F.zh.L3 n (xe Fg ks 0) m
def q15:Shape:=⟨[(2,jN),(3,V0)],hZ,[],[],[],2,0,0⟩
noncomputable def ql7(X:Type)(n:Nat):bm X:=dp 8 0 0 0 Fg [(2,Fg)] [q15] n fun m ks=>F.zh.L5 n (xe Fg ks 2) (xr q15 ks) m
noncomputable def Ic(X:Type)(n:Nat):Cx X:=bc tab.get [(62,Tryz.f62)] [OD n] [(62,3,[ql6 X n]),(62,5,[ql7 X n])] [] [] []
theorem qo6(X:Type)(n:Nat):LO (Ic X n) 62 Tryz.f62 0 (ql6 X n):=fb
theorem qo7(X:Type)(n:Nat):LO (Ic X n) 62 Tryz.f62 1 (ql7 X n):=fb
theorem z1e(X:Type)(n:Nat):a_ Tryz.prog SW (Ic X n):=mx (T1 (J Tryz.func62 (by decide))) (T1 (zb (Ib n))) (T1 (bd (J (T1 (qo6 X n)) (T1 (T1 (qo7 X n)))) trivial)) trivial
abbrev P62:List SV:=[V9]
abbrev R62:RV:=.many [V9,V0]
theorem Ie(n:Nat):FO 62 P62 R62 (F.zh n):=zg cg.st (z1e _ n) (d:=8) fun _=>by kernel_rfl
noncomputable def Xi(n:Nat):=oc 62 P62 R62 (F.zh n)
noncomputable def Xj(X:Type)(n:Nat):Cx X:=bc tab.get [(214,Tryz.f214)] [] [] [] [] []
theorem zxi(X:Type)(n:Nat):a_ Tryz.prog SW (Xj X n):=mx (T1 (J Tryz.func214 (by decide))) trivial (T1 (bd trivial trivial)) trivial
abbrev OE:List SV:=[V0]
abbrev OG:RV:=.one .bool
theorem Ig(n:Nat):FO 214 OE OG (F.qL n):=zg cg.st (zxi _ n) (d:=8) fun _=>by kernel_rfl
noncomputable def OH(n:Nat):=oc 214 OE OG (F.qL n)
noncomputable def Xk(X:Type)(n:Nat):Cx X:=bc tab.get [(250,Tryz.f250)] [] [] [] [] []
theorem zxj(X:Type)(n:Nat):a_ Tryz.prog SW (Xk X n):=mx (T1 (J Tryz.func250 (by decide))) trivial (T1 (bd trivial trivial)) trivial
abbrev OI:List SV:=[wN,wN,wN]
abbrev OJ:RV:=.one .bool
theorem Xl(n:Nat):FO 250 OI OJ (F.mf n):=zg cg.st (zxj _ n) (d:=8) fun _=>by kernel_rfl
noncomputable def agb(n:Nat):=oc 250 OI OJ (F.mf n)
noncomputable def Xm(X:Type)(n:Nat):Cx X:=bc tab.get [(215,Tryz.f215)] [agb n] [] [] [] []
theorem zxk(X:Type)(n:Nat):a_ Tryz.prog SW (Xm X n):=mx (T1 (J Tryz.func215 (by decide))) (T1 (zb (Xl n))) (T1 (bd trivial trivial)) trivial
abbrev OK:List SV:=[V0,wN]
abbrev OL:RV:=.one .bool
theorem Ih(n:Nat):FO 215 OK OL (F.ud n):=zg cg.st (zxk _ n) (d:=8) fun _=>by kernel_rfl
noncomputable def OM(n:Nat):=oc 215 OK OL (F.ud n)
def q16:Shape:=⟨[(0,V0),(1,.str),(11,V0),(12,V0)],[],[],[],[],0,0,0⟩
def q17:Shape:=⟨e25,[],[],[],[],0,0,0⟩
noncomputable def ql8(X:Type)(n:Nat):bm X:=dp 8 0 0 0 q16 [(0,rR)] [q17] n fun m ks=>F.iZ.L4 n (fun _=>xe rR ks 0) (xr q17 ks) m
noncomputable def Ii(X:Type)(n:Nat):Cx X:=bc tab.get [(166,Tryz.f166)] [OH n,OM n] [(166,4,[ql8 X n])] [] [] []
theorem qo8(X:Type)(n:Nat):LO (Ii X n) 166 Tryz.f166 0 (ql8 X n):=fb
theorem zxl(X:Type)(n:Nat):a_ Tryz.prog SW (Ii X n):=mx (T1 (J Tryz.func166 (by decide))) (J (zb (Ig n)) (T1 (zb (Ih n)))) (T1 (bd (T1 (T1 (qo8 X n))) trivial)) trivial
abbrev OO:List SV:=[V0,.str]
abbrev OP:RV:=.many [V0,V0]
theorem Ij(n:Nat):FO 166 OO OP (F.iZ n):=zg cg.st (zxl _ n) (d:=8) fun _=>by kernel_rfl
noncomputable def OQ(n:Nat):=oc 166 OO OP (F.iZ n)
noncomputable def Xn(X:Type)(n:Nat):Cx X:=bc tab.get [(102,Tryz.f102)] [OQ n] [] [] [] []
theorem zxm(X:Type)(n:Nat):a_ Tryz.prog SW (Xn X n):=mx (T1 (J Tryz.func102 (by decide))) (T1 (zb (Ij n))) (T1 (bd trivial trivial)) trivial
abbrev OS:List SV:=[V0,.str,V0,V0]
abbrev OT:RV:=.one qt
theorem sW(n:Nat):FO 102 OS OT (F.k9 n):=zg cg.st (zxm _ n) (d:=8) fun _=>by kernel_rfl
noncomputable def yb(n:Nat):=oc 102 OS OT (F.k9 n)
noncomputable def Xo(X:Type)(n:Nat):Cx X:=bc tab.get [(124,Tryz.f124)] [yb n] [] [] [] []
theorem zxn(X:Type)(n:Nat):a_ Tryz.prog SW (Xo X n):=mx (T1 (J Tryz.func124 (by decide))) (T1 (zb (sW n))) (T1 (bd trivial trivial)) trivial
abbrev OU:List SV:=[V3]
abbrev OV:RV:=.one .bool
theorem Xp(n:Nat):FO 124 OU OV (F.ql n):=zg cg.st (zxn _ n) (d:=8) fun _=>by kernel_rfl
noncomputable def age(n:Nat):=oc 124 OU OV (F.ql n)
noncomputable def Xq(X:Type)(n:Nat):Cx X:=bc tab.get [(187,Tryz.f187)] [] [] [] [] []
theorem zxo(X:Type)(n:Nat):a_ Tryz.prog SW (Xq X n):=mx (T1 (J Tryz.func187 (by decide))) trivial (T1 (bd trivial trivial)) trivial
abbrev OW:List SV:=[V0,V0,V0]
abbrev OX:RV:=.one .bool
theorem A1(n:Nat):FO 187 OW OX (F.oM n):=zg cg.st (zxo _ n) (d:=8) fun _=>by kernel_rfl
noncomputable def D_(n:Nat):=oc 187 OW OX (F.oM n)
noncomputable def Xr(X:Type)(n:Nat):Cx X:=bc tab.get [(125,Tryz.f125)] [D_ n] [] [] [] []
theorem zxp(X:Type)(n:Nat):a_ Tryz.prog SW (Xr X n):=mx (T1 (J Tryz.func125 (by decide))) (T1 (zb (A1 n))) (T1 (bd trivial trivial)) trivial
abbrev OY:List SV:=[V3]
abbrev OZ:RV:=.one .bool
theorem Xs(n:Nat):FO 125 OY OZ (F.tD n):=zg cg.st (zxp _ n) (d:=8) fun _=>by kernel_rfl
noncomputable def agf(n:Nat):=oc 125 OY OZ (F.tD n)
noncomputable def Xt(X:Type)(n:Nat):Cx X:=bc tab.get [(142,Tryz.f142)] [Xi n] [] [] [] []
theorem zxq(X:Type)(n:Nat):a_ Tryz.prog SW (Xt X n):=mx (T1 (J Tryz.func142 (by decide))) (T1 (zb (Ie n))) (T1 (bd trivial trivial)) trivial
abbrev O0:List SV:=[V9]
abbrev O1:RV:=.one V0
theorem A3(n:Nat):FO 142 O0 O1 (F.rM n):=zg cg.st (zxq _ n) (d:=8) fun _=>by kernel_rfl
noncomputable def Ea(n:Nat):=oc 142 O0 O1 (F.rM n)
noncomputable def Xu(X:Type)(n:Nat):Cx X:=bc tab.get [(189,Tryz.f189)] [Ea n] [] [] [] []
theorem zxr(X:Type)(n:Nat):a_ Tryz.prog SW (Xu X n):=mx (T1 (J Tryz.func189 (by decide))) (T1 (zb (A3 n))) (T1 (bd trivial trivial)) trivial
abbrev O2:List SV:=[V9]
abbrev O3:RV:=.one .bool
theorem Xv(n:Nat):FO 189 O2 O3 (F.yK n):=zg cg.st (zxr _ n) (d:=8) fun _=>by kernel_rfl
noncomputable def agh(n:Nat):=oc 189 O2 O3 (F.yK n)
def q18:Shape:=⟨[(0,V1),(1,(.const (.fn 189 [] []))),(7,V0),(8,V0)],[r0],[],[],[],1,0,0⟩
def MD:Shape:=⟨[(4,V0)],[r0],[],[],[],1,0,0⟩
noncomputable def ql9(X:Type)(n:Nat):bm X:=dp 6 1 0 0 q18 [(0,q1)] [MD] n fun m ks=>F.zm.ao n (xe q1 ks 0) (xr MD ks) m
noncomputable def Ik(X:Type)(n:Nat):Cx X:=bc tab.get [(126,Tryz.f126),(188,Tryz.f188),(226,Tryz.f226)] [D_ n,agh n] [(226,2,[ql9 X n])] [] [] []
theorem qo9(X:Type)(n:Nat):LO (Ik X n) 226 Tryz.f226 0 (ql9 X n):=fb
theorem zxs(X:Type)(n:Nat):a_ Tryz.prog SW (Ik X n):=mx (J (J Tryz.func126 (by decide)) (J (J Tryz.func188 (by decide)) (T1 (J Tryz.func226 (by decide))))) (J (zb (A1 n)) (T1 (zb (Xv n)))) (J (bd trivial trivial) (J (bd trivial trivial) (T1 (bd (T1 (T1 (qo9 X n))) trivial)))) trivial
abbrev O4:List SV:=[V3]
abbrev O5:RV:=.one .bool
theorem Xw(n:Nat):FO 126 O4 O5 (F.zm n):=zg cg.st (zxs _ n) (d:=8) fun _=>by kernel_rfl
noncomputable def agj(n:Nat):=oc 126 O4 O5 (F.zm n)
noncomputable def Xx(X:Type)(n:Nat):Cx X:=bc tab.get [(127,Tryz.f127)] [D_ n] [] [] [] []
theorem zxt(X:Type)(n:Nat):a_ Tryz.prog SW (Xx X n):=mx (T1 (J Tryz.func127 (by decide))) (T1 (zb (A1 n))) (T1 (bd trivial trivial)) trivial
abbrev O6:List SV:=[V3]
abbrev O7:RV:=.one .bool
theorem Xy(n:Nat):FO 127 O6 O7 (F.tT n):=zg cg.st (zxt _ n) (d:=8) fun _=>by kernel_rfl
noncomputable def agk(n:Nat):=oc 127 O6 O7 (F.tT n)
noncomputable def Xz(X:Type)(n:Nat):Cx X:=bc tab.get [(175,Tryz.f175)] [yb n] [] [] [] []
theorem zxu(X:Type)(n:Nat):a_ Tryz.prog SW (Xz X n):=mx (T1 (J Tryz.func175 (by decide))) (T1 (zb (sW n))) (T1 (bd trivial trivial)) trivial
abbrev O8:List SV:=[Mz]
abbrev O9:RV:=.one V0
theorem Dd(n:Nat):FO 175 O8 O9 (F.qM n):=zg cg.st (zxu _ n) (d:=8) fun _=>by kernel_rfl
noncomputable def Il(n:Nat):=oc 175 O8 O9 (F.qM n)
noncomputable def XA(X:Type)(n:Nat):Cx X:=bc tab.get [(191,Tryz.f191)] [Il n] [] [] [] []
theorem zxv(X:Type)(n:Nat):a_ Tryz.prog SW (XA X n):=mx (T1 (J Tryz.func191 (by decide))) (T1 (zb (Dd n))) (T1 (bd trivial trivial)) trivial
abbrev O_:List SV:=[Mz]
abbrev O':RV:=.one .bool
theorem XB(n:Nat):FO 191 O_ O' (F.Ad n):=zg cg.st (zxv _ n) (d:=8) fun _=>by kernel_rfl
noncomputable def agl(n:Nat):=oc 191 O_ O' (F.Ad n)
def q20:Shape:=⟨[(0,V2),(1,(.const (.fn 191 [] []))),(7,V0),(8,V0)],[r0],[],[],[],1,0,0⟩
noncomputable def Pa(X:Type)(n:Nat):bm X:=dp 6 1 0 0 q20 [(0,q1)] [MD] n fun m ks=>F.zt.aq n (xe q1 ks 0) (xr MD ks) m
noncomputable def Im(X:Type)(n:Nat):Cx X:=bc tab.get [(128,Tryz.f128),(190,Tryz.f190),(227,Tryz.f227)] [agl n] [(227,2,[Pa X n])] [] [] []
theorem agm(X:Type)(n:Nat):LO (Im X n) 227 Tryz.f227 0 (Pa X n):=fb
theorem zxw(X:Type)(n:Nat):a_ Tryz.prog SW (Im X n):=mx (J (J Tryz.func128 (by decide)) (J (J Tryz.func190 (by decide)) (T1 (J Tryz.func227 (by decide))))) (T1 (zb (XB n))) (J (bd trivial trivial) (J (bd trivial trivial) (T1 (bd (T1 (T1 (agm X n))) trivial)))) trivial
abbrev Pb:List SV:=[V3]
abbrev Pc:RV:=.one .bool
theorem XC(n:Nat):FO 128 Pb Pc (F.zt n):=zg cg.st (zxw _ n) (d:=8) fun _=>by kernel_rfl
noncomputable def agn(n:Nat):=oc 128 Pb Pc (F.zt n)
noncomputable def XD(X:Type)(n:Nat):Cx X:=bc tab.get [(129,Tryz.f129)] [D_ n] [] [] [] []
theorem zxx(X:Type)(n:Nat):a_ Tryz.prog SW (XD X n):=mx (T1 (J Tryz.func129 (by decide))) (T1 (zb (A1 n))) (T1 (bd trivial trivial)) trivial
abbrev Pd:List SV:=[V3]
abbrev Pe:RV:=.one .bool
theorem XE(n:Nat):FO 129 Pd Pe (F.rN n):=zg cg.st (zxx _ n) (d:=8) fun _=>by kernel_rfl
noncomputable def ago(n:Nat):=oc 129 Pd Pe (F.rN n)
def q21:Shape:=⟨[(26,V13),(27,V0)],[r0,r0],[],[],[],2,0,0⟩
def q22:Shape:=⟨[],[r0,r0],[],[],[],2,0,0⟩
def q23:Shape:=⟨[(2,V0)],[r0,r0],[],[],[],2,0,0⟩
noncomputable def Pf(X:Type)(n:Nat):bm X:=dp 8 0 0 0 q21 [(0,q22)] [q23] n fun m ks=>F.zp.L3 n (xe q22 ks 0) (xr q23 ks) m
noncomputable def Pg(X:Type)(n:Nat):Cx X:=bc tab.get [(63,Tryz.f63)] [age n,agf n,agj n,agk n,agn n,ago n] [(63,3,[Pf X n])] [] [] []
theorem agr(X:Type)(n:Nat):LO (Pg X n) 63 Tryz.f63 0 (Pf X n):=fb
theorem z1f(X:Type)(n:Nat):a_ Tryz.prog SW (Pg X n):=mx (T1 (J Tryz.func63 (by decide))) (J (zb (Xp n)) (J (zb (Xs n)) (J (zb (Xw n)) (J (zb (Xy n)) (J (zb (XC n)) (T1 (zb (XE n)))))))) (T1 (bd (T1 (T1 (agr X n))) trivial)) trivial
abbrev P63:List SV:=[V3]
abbrev R63:RV:=.one V0
theorem B6(n:Nat):FO 63 P63 R63 (F.zp n):=zg cg.st (z1f _ n) (d:=8) fun _=>by kernel_rfl
noncomputable def Io(n:Nat):=oc 63 P63 R63 (F.zp n)
noncomputable def XF(X:Type)(n:Nat):Cx X:=bc tab.get [(135,Tryz.f135)] [] [] [] [] []
theorem zxy(X:Type)(n:Nat):a_ Tryz.prog SW (XF X n):=mx (T1 (J Tryz.func135 (by decide))) trivial (T1 (bd trivial trivial)) trivial
abbrev Ph:List SV:=[V2]
abbrev Pj:RV:=.one V2
theorem XG(n:Nat):FO 135 Ph Pj (F.zw n):=zg cg.st (zxy _ n) (d:=8) fun _=>by kernel_rfl
noncomputable def agu(n:Nat):=oc 135 Ph Pj (F.zw n)
def q24:Shape:=⟨[(3,(.ms 2 Y3)),(4,V0),(11,(.ms 2 Y3)),(12,V0),(13,V0)],yS,[],[],[],3,0,0⟩
def q25:Shape:=⟨[(3,(.ms 2 Y3)),(4,V0)],yS,[],[],[],3,0,0⟩
noncomputable def Pk(X:Type)(n:Nat):bm X:=dp 8 0 0 0 q24 [(0,q25)] [] n fun m ks=>F.zy.L5 n (xe q25 ks 0) m
noncomputable def Pl(X:Type)(n:Nat):Cx X:=bc tab.get [(64,Tryz.f64),(130,Tryz.f130)] [agu n] [(64,5,[Pk X n])] [] [] [] [] [(43,Y3)] [(131,.sort Y3 132 cy)] none [130]
theorem agw(X:Type)(n:Nat):LO (Pl X n) 64 Tryz.f64 0 (Pk X n):=fb
theorem z1g(X:Type)(n:Nat):a_ Tryz.prog SW (Pl X n):=mx (J (J Tryz.func64 (by decide)) (T1 (J Tryz.func130 (by decide)))) (T1 (zb (XG n))) (J (bd (T1 (T1 (agw X n))) trivial) (T1 (bd trivial trivial))) trivial (T1 (zpl.mono (fun _ _=>trivial)))
abbrev P64:List SV:=[V2]
abbrev R64:RV:=.one V2
theorem Pm(n:Nat):FO 64 P64 R64 (F.zy n):=zg cg.st (z1g _ n) (d:=8) fun _=>by kernel_rfl
noncomputable def o64(n:Nat):=oc 64 P64 R64 (F.zy n)
def q26:Shape:=⟨[(1,v1),(2,jN),(4,(.ms 3 Y2)),(13,(.ms 3 Y2)),(14,V0),(15,V0)],b39,t11,[],[],4,0,0⟩
def q27:Shape:=⟨[(1,v1),(2,jN),(4,(.ms 3 Y2))],b39,t11,[],[],4,0,0⟩
noncomputable def Pn(X:Type)(n:Nat):bm X:=dp 8 0 0 0 q26 [(0,q27)] [] n fun m ks=>F.zl.L3 n (xe q27 ks 0) m
noncomputable def Po(X:Type)(n:Nat):Cx X:=bc tab.get [(28,Tryz.f28),(61,Tryz.f61)] [Xi n,Io n,o64 n] [(28,3,[Pn X n])] [] [] [] [] [(42,Y2)] [] none [61]
theorem agB(X:Type)(n:Nat):LO (Po X n) 28 Tryz.f28 0 (Pn X n):=fb
theorem z1h(X:Type)(n:Nat):a_ Tryz.prog SW (Po X n):=mx (J (J Tryz.func28 (by decide)) (T1 (J Tryz.func61 (by decide)))) (J (zb (Ie n)) (J (zb (B6 n)) (T1 (zb (Pm n))))) (J (bd (T1 (T1 (agB X n))) trivial) (T1 (bd trivial trivial))) trivial
abbrev P28:List SV:=[V3]
abbrev R28:RV:=.many [V3,V0]
theorem Ip(n:Nat):FO 28 P28 R28 (F.zl n):=zg cg.st (z1h _ n) (d:=8) fun _=>by kernel_rfl
noncomputable def XH(n:Nat):=oc 28 P28 R28 (F.zl n)
def q28:Shape:=⟨e47,Xc,t11,[.ready],[(0,27,5,[(4,v1),(5,jN),(6,mg),(7,v48)])],6,0,1⟩
def ME:Shape:=⟨[],Xc,t11,[.ready],[],6,0,1⟩
def q30:Shape:=⟨[],Xc,t11,[.done .ret],[],6,0,1⟩
noncomputable def Pp(X:Type)(n:Nat):bm X:=dp 6 6 0 1 q28 [(0,ME)] [q30,ME] n fun m ks=>F.zu.bu n (xe ME ks 0) (xr q30 ks) (xr ME ks) m
noncomputable def Iq(X:Type)(n:Nat):Cx X:=bc tab.get [(10,Tryz.f10),(27,Tryz.f27),(60,Tryz.f60),(122,Tryz.f122)] [XH n] [(122,1,[Pp X n])] [(27,5,Tryz.f27,[4,5,6,7],0)] [(27,8,[(0,3)])] []
theorem agF(X:Type)(n:Nat):LO (Iq X n) 122 Tryz.f122 0 (Pp X n):=fb
theorem z1i(X:Type)(n:Nat):a_ Tryz.prog SW (Iq X n):=mx (J (J Tryz.func10 (by decide)) (J (J Tryz.func27 (by decide)) (J (J Tryz.func60 (by decide)) (T1 (J Tryz.func122 (by decide)))))) (T1 (zb (Ip n))) (J (bd trivial trivial) (J (bd trivial (T1 (Hp (cx:=Iq X n) (g:=27) (i:=5) (lv:=[4,5,6,7]) (show _=some (Tryz.f27.ntmps,_,tZ Tryz.f27 0)by kernel_rfl)))) (J (bd trivial trivial) (T1 (bd (T1 (T1 (agF X n))) trivial))))) (T1 (J Tryz.func27 rfl))
abbrev P10:List SV:=[V4]
abbrev R10:RV:=.many [V4,V0,V0]
theorem Ir(n:Nat):FO 10 P10 R10 (F.zu n):=zg cg.st (z1i _ n) (d:=8) fun _=>by kernel_rfl
noncomputable def XI(n:Nat):=oc 10 P10 R10 (F.zu n)
def XJ:Shape:=⟨[(0,V8),(3,Dc)],[],[true],[],[],0,0,0⟩
noncomputable def Pq(X:Type)(n:Nat):bm X:=dp 8 0 0 0 XJ [(0,XJ)] [] n fun m ks=>F.zi.L2 n (xe XJ ks 0) m
noncomputable def Ps(X:Type)(n:Nat):Cx X:=bc tab.get [(36,Tryz.f36)] [] [(36,2,[Pq X n])] [] [] []
theorem agI(X:Type)(n:Nat):LO (Ps X n) 36 Tryz.f36 0 (Pq X n):=fb
theorem z1j(X:Type)(n:Nat):a_ Tryz.prog SW (Ps X n):=mx (T1 (J Tryz.func36 (by decide))) trivial (T1 (bd (T1 (T1 (agI X n))) trivial)) trivial
abbrev P36:List SV:=[V8]
abbrev R36:RV:=.one (.sl .u8 .fresh)
theorem Pt(n:Nat):FO 36 P36 R36 (F.zi n):=zg cg.st (z1j _ n) (d:=8) fun _=>by kernel_rfl
noncomputable def o36(n:Nat):=oc 36 P36 R36 (F.zi n)
noncomputable def agM(X:Type)(n:Nat):Cx X:=bc tab.get [(38,Tryz.f38)] [] [] [] [] []
theorem z1k(X:Type)(n:Nat):a_ Tryz.prog SW (agM X n):=mx (T1 (J Tryz.func38 (by decide))) trivial (T1 (bd trivial trivial)) trivial
abbrev P38:List SV:=[yT]
abbrev R38:RV:=.one V7
theorem Pu(n:Nat):FO 38 P38 R38 (F.wJ n):=zg cg.st (z1k _ n) (d:=8) fun _=>by kernel_rfl
noncomputable def o38(n:Nat):=oc 38 P38 R38 (F.wJ n)
def q32:Shape:=⟨[(0,yT),(3,V0)],[],[],[],[],0,0,0⟩
def q33:Shape:=⟨[(0,yT)],[],[],[],[],0,0,0⟩
noncomputable def Pv(X:Type)(n:Nat):bm X:=dp 8 0 0 0 q32 [(0,q33)] [] n fun m ks=>F.k_.L2 n (xe q33 ks 0) m
noncomputable def Is(X:Type)(n:Nat):Cx X:=bc tab.get [(144,Tryz.f144)] [] [(144,2,[Pv X n])] [] [] []
theorem agR(X:Type)(n:Nat):LO (Is X n) 144 Tryz.f144 0 (Pv X n):=fb
theorem zxz(X:Type)(n:Nat):a_ Tryz.prog SW (Is X n):=mx (T1 (J Tryz.func144 (by decide))) trivial (T1 (bd (T1 (T1 (agR X n))) trivial)) trivial
abbrev Pw:List SV:=[yT]
abbrev Px:RV:=.one yT
theorem XK(n:Nat):FO 144 Pw Px (F.k_ n):=zg cg.st (zxz _ n) (d:=8) fun _=>by kernel_rfl
noncomputable def agS(n:Nat):=oc 144 Pw Px (F.k_ n)
def q34:Shape:=⟨[(5,yT),(11,V7),(12,V0),(13,V0)],[],[],[],[],0,0,0⟩
def q35:Shape:=⟨[(5,yT)],[],[],[],[],0,0,0⟩
noncomputable def Py(X:Type)(n:Nat):bm X:=dp 8 0 0 0 q34 [(0,q35)] [] n fun m ks=>F.lS.L3 n (xe q35 ks 0) m
noncomputable def Pz(X:Type)(n:Nat):Cx X:=bc tab.get [(78,Tryz.f78)] [agS n] [(78,3,[Py X n])] [] [] []
theorem agU(X:Type)(n:Nat):LO (Pz X n) 78 Tryz.f78 0 (Py X n):=fb
theorem z1l(X:Type)(n:Nat):a_ Tryz.prog SW (Pz X n):=mx (T1 (J Tryz.func78 (by decide))) (T1 (zb (XK n))) (T1 (bd (T1 (T1 (agU X n))) trivial)) trivial
abbrev P78:List SV:=[yT,V7]
abbrev R78:RV:=.one yT
theorem agX(n:Nat):FO 78 P78 R78 (F.lS n):=zg cg.st (z1l _ n) (d:=8) fun _=>by kernel_rfl
noncomputable def o78(n:Nat):=oc 78 P78 R78 (F.lS n)
noncomputable def agY(X:Type)(n:Nat):Cx X:=bc tab.get [(39,Tryz.f39)] [o78 n] [] [] [] []
theorem z1m(X:Type)(n:Nat):a_ Tryz.prog SW (agY X n):=mx (T1 (J Tryz.func39 (by decide))) (T1 (zb (agX n))) (T1 (bd trivial trivial)) trivial
abbrev P39:List SV:=[V7]
abbrev R39:RV:=.one yT
theorem PA(n:Nat):FO 39 P39 R39 (F.rO n):=zg cg.st (z1m _ n) (d:=8) fun _=>by kernel_rfl
noncomputable def o39(n:Nat):=oc 39 P39 R39 (F.rO n)
noncomputable def ag2(X:Type)(n:Nat):Cx X:=bc tab.get [(94,Tryz.f94)] [] [] [] [] []
theorem z1n(X:Type)(n:Nat):a_ Tryz.prog SW (ag2 X n):=mx (T1 (J Tryz.func94 (by decide))) trivial (T1 (bd trivial trivial)) trivial
abbrev P94:List SV:=[Mz,Mz]
abbrev R94:RV:=.one .bool
theorem PB(n:Nat):FO 94 P94 R94 (F.qn n):=zg cg.st (z1n _ n) (d:=8) fun _=>by kernel_rfl
noncomputable def o94(n:Nat):=oc 94 P94 R94 (F.qn n)
def q36:Shape:=⟨[(0,V2),(3,V0)],[],[],[],[],0,0,0⟩
noncomputable def PC(X:Type)(n:Nat):bm X:=dp 8 0 0 0 q36 [(0,rR)] [q5] n fun m ks=>F.lT.L2 n (fun _=>xe rR ks 0) (xr q5 ks) m
noncomputable def It(X:Type)(n:Nat):Cx X:=bc tab.get [(140,Tryz.f140)] [o94 n] [(140,2,[PC X n])] [] [] []
theorem ag6(X:Type)(n:Nat):LO (It X n) 140 Tryz.f140 0 (PC X n):=fb
theorem zx0(X:Type)(n:Nat):a_ Tryz.prog SW (It X n):=mx (T1 (J Tryz.func140 (by decide))) (T1 (zb (PB n))) (T1 (bd (T1 (T1 (ag6 X n))) trivial)) trivial
abbrev PD:List SV:=[V2]
abbrev PE:RV:=.one .bool
theorem XL(n:Nat):FO 140 PD PE (F.lT n):=zg cg.st (zx0 _ n) (d:=8) fun _=>by kernel_rfl
noncomputable def ag7(n:Nat):=oc 140 PD PE (F.lT n)
noncomputable def ag8(X:Type)(n:Nat):Cx X:=bc tab.get [(72,Tryz.f72)] [Io n,ag7 n] [] [] [] []
theorem z1o(X:Type)(n:Nat):a_ Tryz.prog SW (ag8 X n):=mx (T1 (J Tryz.func72 (by decide))) (J (zb (B6 n)) (T1 (zb (XL n)))) (T1 (bd trivial trivial)) trivial
abbrev P72:List SV:=[V3]
abbrev R72:RV:=.one .bool
theorem ag'(n:Nat):FO 72 P72 R72 (F.xk n):=zg cg.st (z1o _ n) (d:=8) fun _=>by kernel_rfl
noncomputable def o72(n:Nat):=oc 72 P72 R72 (F.xk n)
noncomputable def XM(X:Type)(n:Nat):Cx X:=bc tab.get [(143,Tryz.f143),(199,Tryz.f199)] [] [] [] [] []
theorem zx1(X:Type)(n:Nat):a_ Tryz.prog SW (XM X n):=mx (J (J Tryz.func143 (by decide)) (T1 (J Tryz.func199 (by decide)))) trivial (J (bd trivial trivial) (T1 (bd trivial trivial))) trivial
abbrev PF:List SV:=[V0]
abbrev PG:RV:=.one V8
theorem XN(n:Nat):FO 143 PF PG (F.AH n):=zg cg.st (zx1 _ n) (d:=8) fun _=>by kernel_rfl
noncomputable def aha(n:Nat):=oc 143 PF PG (F.AH n)
noncomputable def ahb(X:Type)(n:Nat):Cx X:=bc tab.get [(77,Tryz.f77)] [o36 n,Ea n,aha n] [] [] [] []
theorem z1p(X:Type)(n:Nat):a_ Tryz.prog SW (ahb X n):=mx (T1 (J Tryz.func77 (by decide))) (J (zb (Pt n)) (J (zb (A3 n)) (T1 (zb (XN n))))) (T1 (bd trivial trivial)) trivial
abbrev P77:List SV:=[V9]
abbrev R77:RV:=.many [(.sl .u8 .fresh),V0]
theorem ahe(n:Nat):FO 77 P77 R77 (F.vd n):=zg cg.st (z1p _ n) (d:=8) fun _=>by kernel_rfl
noncomputable def o77(n:Nat):=oc 77 P77 R77 (F.vd n)
def q37:Shape:=⟨[(0,V4),(8,jN),(9,Dc),(10,V0),(12,(.sl .u8 (.own 1))),(13,V0),(30,V4),(31,V0),(32,V0)],[[.mp],[(.sl .str (.own 2)),v56]],t59,[],[],2,0,0⟩
def MF:Shape:=⟨[(2,Dc),(3,V0),(4,V0)],Xd,t11,[],[],2,0,0⟩
def XO:Shape:=⟨[(0,V4),(8,jN),(9,Dc),(30,V4),(31,V0),(32,V0)],Xd,t11,[],[],2,0,0⟩
noncomputable def PH(X:Type)(n:Nat):ar X:=aF 8 0 0 0 q37 [XO] [] [MF] fun ks=>F.zb.qN n (xr MF ks) (xn XO ks)
def q40:Shape:=⟨[(0,jN),(3,v48),(7,v70),(8,v46),(9,x8),(10,v72),(53,V1),(54,V0),(55,V0)],MC,t59,[],[],7,2,0⟩
def De:Shape:=⟨[(0,jN),(3,v48),(7,v70),(8,v46),(9,x8),(10,v72)],MC,t59,[],[],7,2,0⟩
noncomputable def PI(X:Type)(n:Nat):bm X:=dp 7 3 2 0 q40 [(1,De)] [] n fun m ks=>F.zb.fM n (xe De ks 1) m
def q42:Shape:=⟨[(0,jN),(3,v48),(7,v70),(8,v46),(9,x8),(10,v72),(14,v77),(76,V2),(77,V0),(78,V0)],[[.mp],MB,r0,r0,[v67],[V0],[v68],AZ],t59,[],[],8,2,0⟩
def XP:Shape:=⟨[(0,jN),(3,v48),(7,v70),(8,v46),(9,x8),(10,v72),(76,V2),(77,V0),(78,V0)],MC,t59,[],[],7,2,0⟩
noncomputable def PJ(X:Type)(n:Nat):ar X:=aF 7 3 2 0 q42 [XP] [] [] fun ks=>F.zb.eZ n (xn XP ks)
def q44:Shape:=⟨[(3,v48),(7,v70),(8,v46),(10,v72)],MC,t59,[],[],7,2,0⟩
noncomputable def PK(X:Type)(n:Nat):bm X:=dp 7 3 2 0 XP [(3,q44)] [] n fun m ks=>F.zb.fx n (xe q44 ks 3) m
def yU:Shape:=⟨[(4,v67),(5,V0)],[[.mp],MB,r0],t59,[],[],3,2,0⟩
noncomputable def PL(X:Type)(n:Nat):ar X:=aF 7 3 2 0 De [] [] [yU] fun ks=>F.zb.mO n (xr yU ks)
noncomputable def PM(X:Type)(n:Nat):ar X:=aF 7 3 2 0 De [] [] [yU] fun ks=>F.zb.mP n (xr yU ks)
noncomputable def PN(X:Type)(n:Nat):ar X:=aF 7 3 2 0 De [] [] [yU] fun ks=>F.zb.mQ n (xr yU ks)
noncomputable def PO(X:Type)(n:Nat):ar X:=aF 7 3 2 0 De [] [] [yU] fun ks=>F.zb.mR n (xr yU ks)
noncomputable def PQ(X:Type)(n:Nat):ar X:=aF 7 3 2 0 De [] [] [yU] fun ks=>F.zb.gK n (xr yU ks)
def q46:Shape:=⟨[(0,V4),(9,Dc)],Xd,t11,[],[],2,0,0⟩
noncomputable def PR(X:Type)(n:Nat):bm X:=dp 8 0 0 0 XO [(0,q46)] [MF] n fun m ks=>F.zb.L7 n (xe q46 ks 0) (xr MF ks) m
noncomputable def qX(X:Type)(n:Nat):Cx X:=bc tab.get [(17,Tryz.f17),(35,Tryz.f35),(37,Tryz.f37),(73,Tryz.f73),(74,Tryz.f74),(75,Tryz.f75),(76,Tryz.f76),(141,Tryz.f141)] [XI n,o36 n,o38 n,o39 n,Io n,o72 n,o77 n] [(17,7,[PR X n]),(37,18,[PI X n]),(37,25,[PK X n])] [] [(37,14,[(0,4),(4,4),(7,7)]),(37,20,[(5,5)]),(37,27,[(0,4),(4,4),(7,7)]),(37,28,[(0,4),(4,4),(7,7)]),(75,0,[(4,4)])] [] [(17,10,[PH X n]),(37,15,[PQ X n]),(37,16,[PO X n]),(37,17,[PN X n]),(37,23,[PM X n]),(37,24,[PL X n]),(37,28,[PJ X n])]
theorem ahh(X:Type)(n:Nat):CO (qX X n) 17 Tryz.f17 13 (PH X n):=fun _ _=>by kernel_rfl
theorem ahi(X:Type)(n:Nat):CO (qX X n) 37 Tryz.f37 33 (PJ X n):=fun _ _=>by kernel_rfl
theorem ahj(X:Type)(n:Nat):CO (qX X n) 37 Tryz.f37 26 (PL X n):=fun _ _=>by kernel_rfl
theorem ahk(X:Type)(n:Nat):CO (qX X n) 37 Tryz.f37 25 (PM X n):=fun _ _=>by kernel_rfl
theorem ahl(X:Type)(n:Nat):CO (qX X n) 37 Tryz.f37 18 (PN X n):=fun _ _=>by kernel_rfl
theorem ahm(X:Type)(n:Nat):CO (qX X n) 37 Tryz.f37 17 (PO X n):=fun _ _=>by kernel_rfl
theorem ahn(X:Type)(n:Nat):CO (qX X n) 37 Tryz.f37 16 (PQ X n):=fun _ _=>by kernel_rfl
theorem aho(X:Type)(n:Nat):LO (qX X n) 37 Tryz.f37 0 (PI X n):=fb
theorem ahp(X:Type)(n:Nat):LO (qX X n) 37 Tryz.f37 1 (PK X n):=fb
theorem ahq(X:Type)(n:Nat):LO (qX X n) 17 Tryz.f17 0 (PR X n):=fb
theorem z1q(X:Type)(n:Nat):a_ Tryz.prog SW (qX X n):=mx (J (J Tryz.func17 (by decide)) (J (J Tryz.func35 (by decide)) (J (J Tryz.func37 (by decide)) (J (J Tryz.func73 (by decide)) (J (J Tryz.func74 (by decide)) (J (J Tryz.func75 (by decide)) (J (J Tryz.func76 (by decide)) (T1 (J Tryz.func141 (by decide)))))))))) (J (zb (Ir n)) (J (zb (Pt n)) (J (zb (Pu n)) (J (zb (PA n)) (J (zb (B6 n)) (J (zb (ag' n)) (T1 (zb (ahe n))))))))) (J (pq (J trivial (J trivial (J trivial (J trivial (J trivial (J trivial (J trivial (J trivial (J trivial (J trivial (J trivial (J trivial (J trivial (J (T1 (ahh X n)) (J trivial (J trivial (J trivial (J trivial (J trivial (J trivial (J trivial (J trivial (T1 trivial))))))))))))))))))))))) (T1 (T1 (ahq X n))) trivial) (J (bd trivial trivial) (J (pq (J trivial (J trivial (J trivial (J trivial (J trivial (J trivial (J trivial (J trivial (J trivial (J trivial (J trivial (J trivial (J trivial (J trivial (J trivial (J trivial (J (T1 (ahn X n)) (J (T1 (ahm X n)) (J (T1 (ahl X n)) (J trivial (J trivial (J trivial (J trivial (J trivial (J trivial (J (T1 (ahk X n)) (J (T1 (ahj X n)) (J trivial (J trivial (J trivial (J trivial (J trivial (J trivial (J (T1 (ahi X n)) (J trivial (J trivial (J trivial (J trivial (T1 trivial))))))))))))))))))))))))))))))))))))))) (J (T1 (aho X n)) (T1 (T1 (ahp X n)))) trivial) (J (bd trivial trivial) (J (bd trivial trivial) (J (bd trivial trivial) (J (bd trivial trivial) (T1 (bd trivial trivial))))))))) trivial
abbrev P17:List SV:=[V4]
abbrev R17:RV:=.many [V7,V0,V0]
theorem PS(n:Nat):FO 17 P17 R17 (F.zb n):=zg cg.st (z1q _ n) (d:=8) fun _=>by kernel_rfl
noncomputable def o17(n:Nat):=oc 17 P17 R17 (F.zb n)
noncomputable def XQ(X:Type)(n:Nat):Cx X:=bc tab.get [(149,Tryz.f149)] [Io n] [] [] [] []
theorem zx2(X:Type)(n:Nat):a_ Tryz.prog SW (XQ X n):=mx (T1 (J Tryz.func149 (by decide))) (T1 (zb (B6 n))) (T1 (bd trivial trivial)) trivial
abbrev PT:List SV:=[V3]
abbrev PU:RV:=.many [.bool,V0]
theorem XR(n:Nat):FO 149 PT PU (F.xU n):=zg cg.st (zx2 _ n) (d:=8) fun _=>by kernel_rfl
noncomputable def ahu(n:Nat):=oc 149 PT PU (F.xU n)
def q47:Shape:=⟨e47,Xe,t11,[.ready],[(0,148,5,[(4,v1),(5,jN),(6,mg),(7,v48)])],6,0,1⟩
def MG:Shape:=⟨[],Xe,t11,[.ready],[],6,0,1⟩
def q49:Shape:=⟨[],Xe,t11,[.done .ret],[],6,0,1⟩
noncomputable def PV(X:Type)(n:Nat):bm X:=dp 6 6 0 1 q47 [(0,MG)] [q49,MG] n fun m ks=>F.zz.dh n (xe MG ks 0) (xr q49 ks) (xr MG ks) m
noncomputable def Iu(X:Type)(n:Nat):Cx X:=bc tab.get [(80,Tryz.f80),(148,Tryz.f148),(201,Tryz.f201),(239,Tryz.f239)] [ahu n] [(239,1,[PV X n])] [(148,5,Tryz.f148,[4,5,6,7],0)] [(148,8,[(0,3)])] []
theorem ahw(X:Type)(n:Nat):LO (Iu X n) 239 Tryz.f239 0 (PV X n):=fb
theorem z1r(X:Type)(n:Nat):a_ Tryz.prog SW (Iu X n):=mx (J (J Tryz.func80 (by decide)) (J (J Tryz.func148 (by decide)) (J (J Tryz.func201 (by decide)) (T1 (J Tryz.func239 (by decide)))))) (T1 (zb (XR n))) (J (bd trivial trivial) (J (bd trivial (T1 (Hp (cx:=Iu X n) (g:=148) (i:=5) (lv:=[4,5,6,7]) (show _=some (Tryz.f148.ntmps,_,tZ Tryz.f148 0)by kernel_rfl)))) (J (bd trivial trivial) (T1 (bd (T1 (T1 (ahw X n))) trivial))))) (T1 (J Tryz.func148 rfl))
abbrev P80:List SV:=[V4]
abbrev R80:RV:=.many [V0,V0]
theorem ahz(n:Nat):FO 80 P80 R80 (F.zz n):=zg cg.st (z1r _ n) (d:=8) fun _=>by kernel_rfl
noncomputable def o80(n:Nat):=oc 80 P80 R80 (F.zz n)
noncomputable def XS(X:Type)(n:Nat):Cx X:=bc tab.get [(200,Tryz.f200)] [] [] [] [] []
theorem zx3(X:Type)(n:Nat):a_ Tryz.prog SW (XS X n):=mx (T1 (J Tryz.func200 (by decide))) trivial (T1 (bd trivial trivial)) trivial
abbrev PW:List SV:=[V3]
abbrev PX:RV:=.one .bool
theorem Iv(n:Nat):FO 200 PW PX (F.lB n):=zg cg.st (zx3 _ n) (d:=8) fun _=>by kernel_rfl
noncomputable def PY(n:Nat):=oc 200 PW PX (F.lB n)
noncomputable def XT(X:Type)(n:Nat):Cx X:=bc tab.get [(145,Tryz.f145)] [PY n] [] [] [] []
theorem zx4(X:Type)(n:Nat):a_ Tryz.prog SW (XT X n):=mx (T1 (J Tryz.func145 (by decide))) (T1 (zb (Iv n))) (T1 (bd trivial trivial)) trivial
abbrev PZ:List SV:=[V3]
abbrev P0:RV:=.one .bool
theorem Iw(n:Nat):FO 145 PZ P0 (F.rP n):=zg cg.st (zx4 _ n) (d:=8) fun _=>by kernel_rfl
noncomputable def P1(n:Nat):=oc 145 PZ P0 (F.rP n)
noncomputable def XU(X:Type)(n:Nat):Cx X:=bc tab.get [(146,Tryz.f146)] [] [] [] [] []
theorem zx5(X:Type)(n:Nat):a_ Tryz.prog SW (XU X n):=mx (T1 (J Tryz.func146 (by decide))) trivial (T1 (bd trivial trivial)) trivial
abbrev P_:List SV:=[V3]
abbrev Qa:RV:=.one .bool
theorem Ix(n:Nat):FO 146 P_ Qa (F.qO n):=zg cg.st (zx5 _ n) (d:=8) fun _=>by kernel_rfl
noncomputable def Qb(n:Nat):=oc 146 P_ Qa (F.qO n)
noncomputable def XV(X:Type)(n:Nat):Cx X:=bc tab.get [(147,Tryz.f147)] [PY n] [] [] [] []
theorem zx6(X:Type)(n:Nat):a_ Tryz.prog SW (XV X n):=mx (T1 (J Tryz.func147 (by decide))) (T1 (zb (Iv n))) (T1 (bd trivial trivial)) trivial
abbrev Qc:List SV:=[V3]
abbrev Qd:RV:=.one .bool
theorem Iy(n:Nat):FO 147 Qc Qd (F.qg n):=zg cg.st (zx6 _ n) (d:=8) fun _=>by kernel_rfl
noncomputable def Qe(n:Nat):=oc 147 Qc Qd (F.qg n)
def q50:Shape:=⟨[(6,(.const (.fn 145 [] []))),(29,V4),(30,V0),(31,V0)],[[HQ]],[],[],[],1,0,0⟩
def Fh:Shape:=⟨[],[[HQ]],[],[],[],1,0,0⟩
def Fi:Shape:=⟨e25,[[HQ]],[],[],[],1,0,0⟩
noncomputable def Qf(X:Type)(n:Nat):bm X:=dp 8 0 0 0 q50 [(0,Fh)] [Fi] n fun m ks=>F.zr.L8 n (fun _=>xe Fh ks 0) (xr Fi ks) m
def q53:Shape:=⟨[(6,(.const (.fn 146 [] []))),(29,V4),(30,V0),(31,V0)],[[HQ]],[],[],[],1,0,0⟩
noncomputable def Qg(X:Type)(n:Nat):bm X:=dp 8 0 0 0 q53 [(0,Fh)] [Fi] n fun m ks=>F.zr.vV n (fun _=>xe Fh ks 0) (xr Fi ks) m
def q54:Shape:=⟨[(6,(.const (.fn 147 [] []))),(29,V4),(30,V0),(31,V0)],[[HQ]],[],[],[],1,0,0⟩
noncomputable def Qh(X:Type)(n:Nat):bm X:=dp 8 0 0 0 q54 [(0,Fh)] [Fi] n fun m ks=>F.zr.zF n (fun _=>xe Fh ks 0) (xr Fi ks) m
noncomputable def Eb(X:Type)(n:Nat):Cx X:=bc tab.get [(40,Tryz.f40)] [o80 n,P1 n,Qb n,Qe n] [(40,8,[Qf X n,Qg X n,Qh X n])] [] [] [] [] [] [(79,.yX [(1,145),(2,146),(3,147),(4,146)])] none []
theorem ahA(X:Type)(n:Nat):LO (Eb X n) 40 Tryz.f40 0 (Qf X n):=fb
theorem ahB(X:Type)(n:Nat):LO (Eb X n) 40 Tryz.f40 0 (Qg X n):=fb
theorem ahC(X:Type)(n:Nat):LO (Eb X n) 40 Tryz.f40 0 (Qh X n):=fb
theorem z1s(X:Type)(n:Nat):a_ Tryz.prog SW (Eb X n):=mx (T1 (J Tryz.func40 (by decide))) (J (zb (ahz n)) (J (zb (Iw n)) (J (zb (Ix n)) (T1 (zb (Iy n)))))) (T1 (bd (T1 (J (ahA X n) (J (ahB X n) (T1 (ahC X n))))) trivial)) trivial (T1 (zqq.mono (fun _ _=>trivial)))
abbrev P40:List SV:=[V4,V0]
abbrev R40:RV:=.many [V0,V0]
theorem ahF(n:Nat):FO 40 P40 R40 (F.zr n):=zg cg.st (z1s _ n) (d:=8) fun _=>by kernel_rfl
noncomputable def o40(n:Nat):=oc 40 P40 R40 (F.zr n)
noncomputable def ahG(X:Type)(n:Nat):Cx X:=bc tab.get [(81,Tryz.f81)] [Io n,P1 n,Qb n,Qe n] [] [] [] [] [] [] [(79,.yX [(1,145),(2,146),(3,147),(4,146)])] none []
theorem z1t(X:Type)(n:Nat):a_ Tryz.prog SW (ahG X n):=mx (T1 (J Tryz.func81 (by decide))) (J (zb (B6 n)) (J (zb (Iw n)) (J (zb (Ix n)) (T1 (zb (Iy n)))))) (T1 (bd trivial trivial)) trivial (T1 (zqq.mono (fun _ _=>trivial)))
abbrev P81:List SV:=[V3,V0]
abbrev R81:RV:=.one V0
theorem Iz(n:Nat):FO 81 P81 R81 (F.oD n):=zg cg.st (z1t _ n) (d:=8) fun _=>by kernel_rfl
noncomputable def XW(n:Nat):=oc 81 P81 R81 (F.oD n)
abbrev P97:List SV:=[V0]
abbrev R97:RV:=.many [.str,V0]
theorem Qi(n:Nat):FO 97 P97 R97 (O.word n):=z03 (enters Tryz.func97 (by kernel_rfl) (by decide)) Tryz.AY n
noncomputable def o97(n:Nat):=oc 97 P97 R97 (O.word n)
abbrev Qj:List SV:=[V8,V0]
abbrev Qk:RV:=.one .str
theorem XX(n:Nat):FO 161 Qj Qk (O.sQ n):=zxb (enters Tryz.func161 (by kernel_rfl) (by decide)) (fun k hk w hw=>(Tryz.pH k hk w (HP hw)).mono fun e w' ⟨a,q,os,b⟩=>⟨a,b▸zi1 q os⟩) n
noncomputable def ahM(n:Nat):=oc 161 Qj Qk (O.sQ n)
abbrev Ql:List SV:=[.str,V0]
abbrev Qm:RV:=.one .str
theorem XY(n:Nat):FO 162 Ql Qm (O.repeat' n):=zuf (enters Tryz.func162 (by kernel_rfl) (by decide)) Tryz.strings_Repeat n
noncomputable def ahN(n:Nat):=oc 162 Ql Qm (O.repeat' n)
noncomputable def ahO(X:Type)(n:Nat):Cx X:=bc tab.get [(98,Tryz.f98)] [Ea n,ahM n,ahN n] [] [] [] []
theorem z1u(X:Type)(n:Nat):a_ Tryz.prog SW (ahO X n):=mx (T1 (J Tryz.func98 (by decide))) (J (zb (A3 n)) (J (zb (XX n)) (T1 (zb (XY n))))) (T1 (bd trivial trivial)) trivial
abbrev P98:List SV:=[V9]
abbrev R98:RV:=.many [.str,V0]
theorem IA(n:Nat):FO 98 P98 R98 (F.qo n):=zg cg.st (z1u _ n) (d:=8) fun _=>by kernel_rfl
noncomputable def XZ(n:Nat):=oc 98 P98 R98 (F.qo n)
abbrev Qn:List SV:=[V0]
abbrev Qo:RV:=.one .str
theorem IB(n:Nat):FO 163 Qn Qo (O.itoa n):=z0z (enters Tryz.func163 (by kernel_rfl) (by decide)) (fun k h0 h1 w hw=>(Tryz.strconv_Itoa k h0 h1 w (HP hw)).mono fun e w' ⟨a,q,os,b⟩=>⟨a,b▸zi1 q os⟩) n
noncomputable def Qp(n:Nat):=oc 163 Qn Qo (O.itoa n)
abbrev Qq:List SV:=[.str,.str]
abbrev Qr:RV:=.one .str
theorem IC(n:Nat):FO 164 Qq Qr (O.od n):=zxc (enters Tryz.func164 (by kernel_rfl) (by decide)) Tryz.strings_TrimRight_one n
noncomputable def Qs(n:Nat):=oc 164 Qq Qr (O.od n)
noncomputable def ahR(X:Type)(n:Nat):Cx X:=bc tab.get [(99,Tryz.f99)] [Qp n,Qs n] [] [] [] []
theorem z1v(X:Type)(n:Nat):a_ Tryz.prog SW (ahR X n):=mx (T1 (J Tryz.func99 (by decide))) (J (zb (IB n)) (T1 (zb (IC n)))) (T1 (bd trivial trivial)) trivial
abbrev P99:List SV:=[V0]
abbrev R99:RV:=.many [.str,V0]
theorem Qt(n:Nat):FO 99 P99 R99 (F.wE n):=zg cg.st (z1v _ n) (d:=8) fun _=>by kernel_rfl
noncomputable def o99(n:Nat):=oc 99 P99 R99 (F.wE n)
noncomputable def ahV(X:Type)(n:Nat):Cx X:=bc tab.get [(51,Tryz.f51)] [XW n,o97 n,XZ n,o99 n] [] [] [] []
theorem z1w(X:Type)(n:Nat):a_ Tryz.prog SW (ahV X n):=mx (T1 (J Tryz.func51 (by decide))) (J (zb (Iz n)) (J (zb (Qi n)) (J (zb (IA n)) (T1 (zb (Qt n)))))) (T1 (bd trivial trivial)) trivial
abbrev P51:List SV:=[V3]
abbrev R51:RV:=.many [.str,V0]
theorem ahY(n:Nat):FO 51 P51 R51 (F.uf n):=zg cg.st (z1w _ n) (d:=8) fun _=>by kernel_rfl
noncomputable def o51(n:Nat):=oc 51 P51 R51 (F.uf n)
noncomputable def X0(X:Type)(n:Nat):Cx X:=bc tab.get [(174,Tryz.f174)] [] [] [] [] []
theorem zx7(X:Type)(n:Nat):a_ Tryz.prog SW (X0 X n):=mx (T1 (J Tryz.func174 (by decide))) trivial (T1 (bd trivial trivial)) trivial
abbrev Qu:List SV:=[]
abbrev Qv:RV:=.one V15
theorem ID(n:Nat):FO 174 Qu Qv (F.wK n):=zg cg.st (zx7 _ n) (d:=8) fun _=>by kernel_rfl
noncomputable def Qw(n:Nat):=oc 174 Qu Qv (F.wK n)
noncomputable def X1(X:Type)(n:Nat):Cx X:=bc tab.get [(110,Tryz.f110)] [Qw n] [] [] [] []
theorem zx8(X:Type)(n:Nat):a_ Tryz.prog SW (X1 X n):=mx (T1 (J Tryz.func110 (by decide))) (T1 (zb (ID n))) (T1 (bd trivial trivial)) trivial
abbrev Qx:List SV:=[V0]
abbrev Qy:RV:=.many [.str,V0]
theorem X2(n:Nat):FO 110 Qx Qy (F.uP n):=zg cg.st (zx8 _ n) (d:=8) fun _=>by kernel_rfl
noncomputable def ahZ(n:Nat):=oc 110 Qx Qy (F.uP n)
def q55:Shape:=⟨[(5,HR),(10,V2),(11,V0),(12,V0)],[],[true],[],[],0,0,0⟩
def q56:Shape:=⟨[(5,HR)],[],[true],[],[],0,0,0⟩
def q57:Shape:=⟨[(2,.str),(3,V0),(4,V0)],[],[],[],[],0,0,0⟩
noncomputable def Qz(X:Type)(n:Nat):bm X:=dp 8 0 0 0 q55 [(0,q56)] [q57] n fun m ks=>F.la.L3 n (xe q56 ks 0) (xr q57 ks) m
noncomputable def IE(X:Type)(n:Nat):Cx X:=bc tab.get [(111,Tryz.f111)] [o70 n,Il n] [(111,3,[Qz X n])] [] [] []
theorem ah2(X:Type)(n:Nat):LO (IE X n) 111 Tryz.f111 0 (Qz X n):=fb
theorem zx9(X:Type)(n:Nat):a_ Tryz.prog SW (IE X n):=mx (T1 (J Tryz.func111 (by decide))) (J (zb (Ou n)) (T1 (zb (Dd n)))) (T1 (bd (T1 (T1 (ah2 X n))) trivial)) trivial
abbrev QA:List SV:=[V2]
abbrev QB:RV:=.many [.str,V0,V0]
theorem X3(n:Nat):FO 111 QA QB (F.la n):=zg cg.st (zx9 _ n) (d:=8) fun _=>by kernel_rfl
noncomputable def ah3(n:Nat):=oc 111 QA QB (F.la n)
noncomputable def X4(X:Type)(n:Nat):Cx X:=bc tab.get [(112,Tryz.f112)] [Qp n] [] [] [] []
theorem zya(X:Type)(n:Nat):a_ Tryz.prog SW (X4 X n):=mx (T1 (J Tryz.func112 (by decide))) (T1 (zb (IB n))) (T1 (bd trivial trivial)) trivial
abbrev QC:List SV:=[V0]
abbrev QD:RV:=.many [.str,V0]
theorem IF(n:Nat):FO 112 QC QD (F.qp n):=zg cg.st (zya _ n) (d:=8) fun _=>by kernel_rfl
noncomputable def QE(n:Nat):=oc 112 QC QD (F.qp n)
def q58:Shape:=⟨[(1,v1),(5,mg),(6,v48),(7,N4),(34,V1),(35,V0),(36,V0)],HS,[],[],[],4,0,0⟩
def IG:Shape:=⟨[(1,v1),(5,mg),(6,v48),(7,N4)],HS,[],[],[],4,0,0⟩
noncomputable def QF(X:Type)(n:Nat):bm X:=dp 8 0 0 0 q58 [(0,IG)] [] n fun m ks=>F.zk.L9 n (xe IG ks 0) m
def q60:Shape:=⟨[(5,mg),(6,v48)],HS,[],[],[],4,0,0⟩
def B7:Shape:=⟨[(2,.str),(3,V0)],[],[],[],[],0,0,0⟩
noncomputable def QG(X:Type)(n:Nat):ar X:=aF 8 0 0 0 q60 [] [] [B7] fun ks=>F.zk.E6 n (xr B7 ks)
noncomputable def QH(X:Type)(n:Nat):ar X:=aF 8 0 0 0 IG [] [] [B7] fun ks=>F.zk.E7 n (xr B7 ks)
noncomputable def QI(X:Type)(n:Nat):ar X:=aF 8 0 0 0 IG [] [] [B7] fun ks=>F.zk.E8 n (xr B7 ks)
noncomputable def QJ(X:Type)(n:Nat):ar X:=aF 8 0 0 0 IG [] [] [B7] fun ks=>F.zk.ve n (xr B7 ks)
noncomputable def zH(X:Type)(n:Nat):Cx X:=bc tab.get [(53,Tryz.f53),(108,Tryz.f108),(109,Tryz.f109)] [XH n,XZ n,o99 n,ahZ n,ah3 n,QE n] [(53,9,[QF X n])] [] [] [] [(53,16,[QJ X n]),(53,19,[QI X n]),(53,22,[QH X n]),(53,25,[QG X n])] [] [(113,.qu 176 5),(173,.th 176)] (some (176,5)) []
theorem ah4(X:Type)(n:Nat):CO (zH X n) 53 Tryz.f53 24 (QG X n):=fun _ _=>by kernel_rfl
theorem ah5(X:Type)(n:Nat):CO (zH X n) 53 Tryz.f53 21 (QH X n):=fun _ _=>by kernel_rfl
theorem ah6(X:Type)(n:Nat):CO (zH X n) 53 Tryz.f53 18 (QI X n):=fun _ _=>by kernel_rfl
theorem ah7(X:Type)(n:Nat):CO (zH X n) 53 Tryz.f53 17 (QJ X n):=fun _ _=>by kernel_rfl
theorem ah8(X:Type)(n:Nat):LO (zH X n) 53 Tryz.f53 0 (QF X n):=fb
theorem z1x(X:Type)(n:Nat):a_ Tryz.prog SW (zH X n):=mx (J (J Tryz.func53 (by decide)) (J (J Tryz.func108 (by decide)) (T1 (J Tryz.func109 (by decide))))) (J (zb (Ip n)) (J (zb (IA n)) (J (zb (Qt n)) (J (zb (X2 n)) (J (zb (X3 n)) (T1 (zb (IF n)))))))) (J (pq (J trivial (J trivial (J trivial (J trivial (J trivial (J trivial (J trivial (J trivial (J trivial (J trivial (J trivial (J trivial (J trivial (J trivial (J trivial (J trivial (J trivial (J (T1 (ah7 X n)) (J (T1 (ah6 X n)) (J trivial (J trivial (J (T1 (ah5 X n)) (J trivial (J trivial (J (T1 (ah4 X n)) (J trivial (J trivial (J trivial (J trivial (J trivial (T1 trivial))))))))))))))))))))))))))))))) (T1 (T1 (ah8 X n))) trivial) (J (bd trivial trivial) (T1 (bd trivial trivial)))) trivial (J (zr6.mono (fun _ _=>trivial)) (T1 (znh.mono (fun _ _=>trivial))))
abbrev P53:List SV:=[V3]
abbrev R53:RV:=.many [.str,V0]
theorem ah'(n:Nat):FO 53 P53 R53 (F.zk n):=zg cg.st (z1x _ n) (d:=8) fun _=>by kernel_rfl
noncomputable def o53(n:Nat):=oc 53 P53 R53 (F.zk n)
noncomputable def aia(X:Type)(n:Nat):Cx X:=bc tab.get [(55,Tryz.f55)] [XW n,XZ n,QE n] [] [] [] []
theorem z1y(X:Type)(n:Nat):a_ Tryz.prog SW (aia X n):=mx (T1 (J Tryz.func55 (by decide))) (J (zb (Iz n)) (J (zb (IA n)) (T1 (zb (IF n))))) (T1 (bd trivial trivial)) trivial
abbrev P55:List SV:=[V3]
abbrev R55:RV:=.many [.str,V0]
theorem aid(n:Nat):FO 55 P55 R55 (F.qP n):=zg cg.st (z1y _ n) (d:=8) fun _=>by kernel_rfl
noncomputable def o55(n:Nat):=oc 55 P55 R55 (F.qP n)
noncomputable def aie(X:Type)(n:Nat):Cx X:=bc tab.get [(23,Tryz.f23),(41,Tryz.f41)] [XH n,o51 n,o53 n,o55 n,XW n] [] [] [] []
theorem z1z(X:Type)(n:Nat):a_ Tryz.prog SW (aie X n):=mx (J (J Tryz.func23 (by decide)) (T1 (J Tryz.func41 (by decide)))) (J (zb (Ip n)) (J (zb (ahY n)) (J (zb (ah' n)) (J (zb (aid n)) (T1 (zb (Iz n))))))) (J (bd trivial trivial) (T1 (bd trivial trivial))) trivial
abbrev P41:List SV:=[V3,V0]
abbrev R41:RV:=.many [.str,V0]
theorem aii(n:Nat):FO 41 P41 R41 (F.tC n):=zg cg.st (z1z _ n) (d:=8) fun _=>by kernel_rfl
noncomputable def o41(n:Nat):=oc 41 P41 R41 (F.tC n)
def q62:Shape:=⟨HU,HT,[true],[],[],2,0,0⟩
def q63:Shape:=⟨HV,HT,[true],[],[],2,0,0⟩
def q64:Shape:=⟨HW,HT,[true],[],[],2,0,0⟩
noncomputable def QK(X:Type)(n:Nat):bm X:=dp 8 0 0 0 q62 [(0,q63)] [q64] n fun m ks=>F.z8.ug n (xe q63 ks 0) (xr q64 ks) m
def q65:Shape:=⟨HU,HX,[true],[],[],2,0,0⟩
def q66:Shape:=⟨HV,HX,[true],[],[],2,0,0⟩
def q67:Shape:=⟨HW,HX,[true],[],[],2,0,0⟩
noncomputable def QL(X:Type)(n:Nat):bm X:=dp 8 0 0 0 q65 [(0,q66)] [q67] n fun m ks=>F.z8.ug n (xe q66 ks 0) (xr q67 ks) m
def q68:Shape:=⟨HU,HY,[true],[],[],2,0,0⟩
def q69:Shape:=⟨HV,HY,[true],[],[],2,0,0⟩
def q70:Shape:=⟨HW,HY,[true],[],[],2,0,0⟩
noncomputable def QM(X:Type)(n:Nat):bm X:=dp 8 0 0 0 q68 [(0,q69)] [q70] n fun m ks=>F.z8.ug n (xe q69 ks 0) (xr q70 ks) m
noncomputable def Ec(X:Type)(n:Nat):Cx X:=bc tab.get [(18,Tryz.f18),(23,Tryz.f23)] [XI n,o40 n,o41 n] [(18,12,[QK X n,QL X n,QM X n])] [] [] []
theorem aip(X:Type)(n:Nat):LO (Ec X n) 18 Tryz.f18 0 (QK X n):=fb
theorem aiq(X:Type)(n:Nat):LO (Ec X n) 18 Tryz.f18 0 (QL X n):=fb
theorem air(X:Type)(n:Nat):LO (Ec X n) 18 Tryz.f18 0 (QM X n):=fb
theorem z10(X:Type)(n:Nat):a_ Tryz.prog SW (Ec X n):=mx (J (J Tryz.func18 (by decide)) (T1 (J Tryz.func23 (by decide)))) (J (zb (Ir n)) (J (zb (ahF n)) (T1 (zb (aii n))))) (J (bd (T1 (J (aip X n) (J (aiq X n) (T1 (air X n))))) trivial) (T1 (bd trivial trivial))) trivial
abbrev P18:List SV:=[V4,V0]
abbrev R18:RV:=.many [V5,V0,V0]
theorem QN(n:Nat):FO 18 P18 R18 (F.z8 n):=zg cg.st (z10 _ n) (d:=8) fun _=>by kernel_rfl
noncomputable def o18(n:Nat):=oc 18 P18 R18 (F.z8 n)
noncomputable def cx6(X:Type)(n:Nat):Cx X:=bc tab.get [(6,Tryz.f6)] [o13 n,o16 n,o17 n,o18 n] [] [] [] []
theorem z34(X:Type)(n:Nat):a_ Tryz.prog SW (cx6 X n):=mx (T1 (J Tryz.func6 (by decide))) (J (zb (Ov n)) (J (zb (On n)) (J (zb (PS n)) (T1 (zb (QN n)))))) (T1 (bd trivial trivial)) trivial
abbrev P6:List SV:=[V4,V0,V0]
abbrev R6:RV:=.many [V6,V0,V0]
theorem ok6(n:Nat):FO 6 P6 R6 (F.wL n):=zg cg.st (z34 _ n) (d:=8) fun _=>by kernel_rfl
noncomputable def o6(n:Nat):=oc 6 P6 R6 (F.wL n)
def q71:Shape:=⟨[(13,V0),(39,V5),(40,V0),(41,V0)],[],[],[],[],0,0,0⟩
def q72:Shape:=⟨[(13,V0)],[],[],[],[],0,0,0⟩
noncomputable def QO(X:Type)(n:Nat):bm X:=dp 8 0 0 0 q71 [(0,q72)] [] n fun m ks=>F.jy.L9 n (xe q72 ks 0) m
noncomputable def cx7(X:Type)(n:Nat):Cx X:=bc tab.get [(7,Tryz.f7)] [o17 n,o18 n] [(7,9,[QO X n])] [] [] []
theorem aix(X:Type)(n:Nat):LO (cx7 X n) 7 Tryz.f7 0 (QO X n):=fb
theorem z35(X:Type)(n:Nat):a_ Tryz.prog SW (cx7 X n):=mx (T1 (J Tryz.func7 (by decide))) (J (zb (PS n)) (T1 (zb (QN n)))) (T1 (bd (T1 (T1 (aix X n))) trivial)) trivial
abbrev P7:List SV:=[V4,V0]
abbrev R7:RV:=.many [V0,V0,V0]
theorem ok7(n:Nat):FO 7 P7 R7 (F.jy n):=zg cg.st (z35 _ n) (d:=8) fun _=>by kernel_rfl
noncomputable def o7(n:Nat):=oc 7 P7 R7 (F.jy n)
def q73:Shape:=⟨[(0,V7),(4,v1),(13,V16),(14,V0)],vX,[],[],[],1,0,0⟩
def q74:Shape:=⟨[(0,V7),(4,v1)],vX,[],[],[],1,0,0⟩
def MH:Shape:=⟨[(2,V0),(3,V0),(4,v1)],vX,[],[],[],1,0,0⟩
noncomputable def QP(X:Type)(n:Nat):bm X:=dp 8 0 0 0 q73 [(0,q74)] [MH] n fun m ks=>F.zq.L2 n (xe q74 ks 0) (xr MH ks) m
def q76:Shape:=⟨[(0,V7),(4,v1),(7,V0),(8,V0)],vX,[],[],[],1,0,0⟩
def q77:Shape:=⟨[(4,v1)],vX,[],[],[],1,0,0⟩
noncomputable def QQ(X:Type)(n:Nat):bm X:=dp 8 0 0 0 q76 [(3,q77)] [MH] n fun m ks=>F.zq.yN n (xe q77 ks 3) (xr MH ks) m
noncomputable def IH(X:Type)(n:Nat):Cx X:=bc tab.get [(21,Tryz.f21)] [] [(21,2,[QP X n]),(21,10,[QQ X n])] [] [] []
theorem aiA(X:Type)(n:Nat):LO (IH X n) 21 Tryz.f21 0 (QP X n):=fb
theorem aiB(X:Type)(n:Nat):LO (IH X n) 21 Tryz.f21 1 (QQ X n):=fb
theorem z11(X:Type)(n:Nat):a_ Tryz.prog SW (IH X n):=mx (T1 (J Tryz.func21 (by decide))) trivial (T1 (bd (J (T1 (aiA X n)) (T1 (T1 (aiB X n)))) trivial)) trivial
abbrev P21:List SV:=[V7]
abbrev R21:RV:=.many [V0,V0,qt]
theorem QR(n:Nat):FO 21 P21 R21 (F.zq n):=zg cg.st (z11 _ n) (d:=8) fun _=>by kernel_rfl
noncomputable def o21(n:Nat):=oc 21 P21 R21 (F.zq n)
noncomputable def aiF(X:Type)(n:Nat):Cx X:=bc tab.get [(19,Tryz.f19)] [o21 n] [] [] [] []
theorem z12(X:Type)(n:Nat):a_ Tryz.prog SW (aiF X n):=mx (T1 (J Tryz.func19 (by decide))) (T1 (zb (QR n))) (T1 (bd trivial trivial)) trivial
abbrev P19:List SV:=[V7]
abbrev R19:RV:=.many [V0,qt]
theorem aiI(n:Nat):FO 19 P19 R19 (F.yO n):=zg cg.st (z12 _ n) (d:=8) fun _=>by kernel_rfl
noncomputable def o19(n:Nat):=oc 19 P19 R19 (F.yO n)
noncomputable def aiJ(X:Type)(n:Nat):Cx X:=bc tab.get [(42,Tryz.f42)] [] [] [] [] []
theorem z13(X:Type)(n:Nat):a_ Tryz.prog SW (aiJ X n):=mx (T1 (J Tryz.func42 (by decide))) trivial (T1 (bd trivial trivial)) trivial
abbrev P42:List SV:=[V7,V7]
abbrev R42:RV:=.one .bool
theorem aiM(n:Nat):FO 42 P42 R42 (F.xR n):=zg cg.st (z13 _ n) (d:=8) fun _=>by kernel_rfl
noncomputable def o42(n:Nat):=oc 42 P42 R42 (F.xR n)
noncomputable def aiN(X:Type)(n:Nat):Cx X:=bc tab.get [(20,Tryz.f20)] [o38 n,o39 n,o42 n] [] [] [] []
theorem z14(X:Type)(n:Nat):a_ Tryz.prog SW (aiN X n):=mx (T1 (J Tryz.func20 (by decide))) (J (zb (Pu n)) (J (zb (PA n)) (T1 (zb (aiM n))))) (T1 (bd trivial trivial)) trivial
abbrev P20:List SV:=[V7]
abbrev R20:RV:=.one V0
theorem aiQ(n:Nat):FO 20 P20 R20 (F.wM n):=zg cg.st (z14 _ n) (d:=8) fun _=>by kernel_rfl
noncomputable def o20(n:Nat):=oc 20 P20 R20 (F.wM n)
noncomputable def aiR(X:Type)(n:Nat):Cx X:=bc tab.get [(91,Tryz.f91)] [] [] [] [] []
theorem z15(X:Type)(n:Nat):a_ Tryz.prog SW (aiR X n):=mx (T1 (J Tryz.func91 (by decide))) trivial (T1 (bd trivial trivial)) trivial
abbrev P91:List SV:=[V0]
abbrev R91:RV:=.one .bool
theorem aiU(n:Nat):FO 91 P91 R91 (F.xG n):=zg cg.st (z15 _ n) (d:=8) fun _=>by kernel_rfl
noncomputable def o91(n:Nat):=oc 91 P91 R91 (F.xG n)
noncomputable def X5(X:Type)(n:Nat):Cx X:=bc tab.get [(158,Tryz.f158)] [] [] [] [] []
theorem zyb(X:Type)(n:Nat):a_ Tryz.prog SW (X5 X n):=mx (T1 (J Tryz.func158 (by decide))) trivial (T1 (bd trivial trivial)) trivial
abbrev QS:List SV:=[V8]
abbrev QT:RV:=.one V0
theorem X6(n:Nat):FO 158 QS QT (F.vf n):=zg cg.st (zyb _ n) (d:=8) fun _=>by kernel_rfl
noncomputable def aiV(n:Nat):=oc 158 QS QT (F.vf n)
noncomputable def X7(X:Type)(n:Nat):Cx X:=bc tab.get [(159,Tryz.f159)] [] [] [] [] []
theorem zyc(X:Type)(n:Nat):a_ Tryz.prog SW (X7 X n):=mx (T1 (J Tryz.func159 (by decide))) trivial (T1 (bd trivial trivial)) trivial
abbrev QU:List SV:=[V7]
abbrev QV:RV:=.one V7
theorem II(n:Nat):FO 159 QU QV (F.rJ n):=zg cg.st (zyc _ n) (d:=8) fun _=>by kernel_rfl
noncomputable def aiW(n:Nat):=oc 159 QU QV (F.rJ n)
def q78:Shape:=⟨[(0,V0),(4,V0),(9,V0)],[],[],[],[],0,0,0⟩
def q79:Shape:=⟨[(4,V0)],[],[],[],[],0,0,0⟩
noncomputable def QW(X:Type)(n:Nat):bm X:=dp 8 0 0 0 q78 [(0,q79)] [] n fun m ks=>F.i_.L5 n (xe q79 ks 0) m
noncomputable def IJ(X:Type)(n:Nat):Cx X:=bc tab.get [(202,Tryz.f202)] [OH n,OM n] [(202,5,[QW X n])] [] [] []
theorem aiY(X:Type)(n:Nat):LO (IJ X n) 202 Tryz.f202 0 (QW X n):=fb
theorem zyd(X:Type)(n:Nat):a_ Tryz.prog SW (IJ X n):=mx (T1 (J Tryz.func202 (by decide))) (J (zb (Ig n)) (T1 (zb (Ih n)))) (T1 (bd (T1 (T1 (aiY X n))) trivial)) trivial
abbrev QX:List SV:=[V0]
abbrev QY:RV:=.many [V0,V0]
theorem X8(n:Nat):FO 202 QX QY (F.i_ n):=zg cg.st (zyd _ n) (d:=8) fun _=>by kernel_rfl
noncomputable def aiZ(n:Nat):=oc 202 QX QY (F.i_ n)
theorem MI(n:Nat){l:List UInt8}(h:l.length≤70368744177664):F.rJ n l=some l:=by
 unfold F.rJ;cases l with
 |nil=>exact if_pos rfl
 |cons x l =>simp only[af3]at h;simp only[List.isEmpty_cons,cond_false,af3,agz];rw[decide_eq_true (by omega)];rfl
def q80:Shape:=⟨iW,rY,[true],[],[],7,1,0⟩
def MJ:Shape:=⟨[],rY,[true],[],[],7,1,0⟩
noncomputable def QZ(X:Type)(n:Nat):ar X:=aF 9 7 1 0 q80 [MJ] [] [] fun ks a b c d e f g h i j k l o p q=>F.za.aa n (fun r s=>xn MJ ks d e f g h i j k r s p q) a b c l o
def q82:Shape:=⟨qV,rY,[true],[],[],7,1,0⟩
def q83:Shape:=⟨[(4,V7)],rY,[true],[],[],7,1,0⟩
noncomputable def Q0(X:Type)(n:Nat):ar X:=aF 10 7 1 0 q82 [] [] [q83] fun ks a b c d e f g h i j k l o=>F.za.ca n (fun p q r s=>xr q83 ks p b c d e f g h q r s l o) a h i j k
def q84:Shape:=⟨rZ,rY,[true],[],[],7,1,0⟩
def q85:Shape:=⟨um,rY,[true],[],[],7,1,0⟩
noncomputable def Q3(X:Type)(n:Nat):ar X:=aF 11 7 1 0 q84 [] [] [q85] fun ks a b c d e f g h i j k l=>F.za.dn n (fun o p q r=>xr q85 ks o a b c d e f g p q r k l) g h i j
def q86:Shape:=⟨[(0,(.const (.fn 83 [] [(.ref 6 0)]))),(5,V8),(6,V0)],rY,[true],[],[],7,1,0⟩
def q87:Shape:=⟨vY,rY,[true],[],[],7,1,0⟩
def q88:Shape:=⟨vZ,rY,[true],[],[],7,1,0⟩
noncomputable def Q4(X:Type)(n:Nat):bm X:=dp 13 7 1 0 q86 [(0,q87)] [q88] n fun m ks a b c d e f g h i j k l o p=>F.za.cm n (fun q r s t u=>xe q87 ks 0 q r c d e f g h i s t u o p) (fun q r s t u v=>xr q88 ks q r s c d e f g h i t u v o p) m a b i j k l
noncomputable def Q5(X:Type)(n:Nat):ar X:=aF 13 7 1 0 q80 [MJ] [] [] fun ks a b c d e f g h i j k l o p q=>F.za.aa n (fun r s=>xn MJ ks d e f g h i j k r s p q) a b c l o
def q89:Shape:=⟨[(1,x8)],rY,[true],[],[],7,0,0⟩
def q90:Shape:=⟨[(2,V8)],B4,[true],[],[],6,0,0⟩
noncomputable def Q6(X:Type)(n:Nat):ar X:=aF 14 6 0 0 q89 [] [] [q90] fun ks a b c d e f g h i j k l=>F.za.cp n (fun o p q r=>xr q90 ks o a b c d e f g p q r k l) g h i j
def q91:Shape:=⟨iW,B4,[true],[],[],6,1,0⟩
def q92:Shape:=⟨[],B4,[true],[],[],6,1,0⟩
noncomputable def Q7(X:Type)(n:Nat):ar X:=aF 14 6 1 0 q91 [q92] [] [] fun ks a b c d e f g h i j k l o p q=>F.za.aa n (fun r s=>xn q92 ks d e f g h i j k r s p q) a b c l o
def q93:Shape:=⟨iW,HZ,t153,[],[],19,6,0⟩
def q94:Shape:=⟨[],HZ,t153,[],[],19,6,0⟩
noncomputable def Q8(X:Type)(n:Nat):ar X:=aF 9 19 6 0 q93 [q94] [] [] fun ks a b c d e f g h i j k l o p q r s t u v w x y z A B C D E G H I J K L M N O P Q R S=>F.za.aa n (fun T U=>xn q94 ks d e f g h i j k T U p q r s t u v w x y z A B C D E G H I J K L M N O P Q R S) a b c l o
def q95:Shape:=⟨iW,r8,t153,[],[],20,6,0⟩
def MK:Shape:=⟨[],r8,t153,[],[],20,6,0⟩
noncomputable def Q9(X:Type)(n:Nat):ar X:=aF 4 20 6 0 q95 [MK] [] [] fun ks a b c d e f g h i j k l o p q r s t u v w x y z A B C D E G H I J K L M N O P Q R S=>F.za.aa n (fun T U=>xn MK ks d e f g h i j k T U p q r s t u v w x y z A B C D E G H I J K L M N O P Q R S) a b c l o
def q97:Shape:=⟨qV,r8,t153,[],[],20,6,0⟩
def q98:Shape:=⟨[(4,V7)],r8,t153,[],[],20,6,0⟩
noncomputable def Q_(X:Type)(n:Nat):ar X:=aF 5 20 6 0 q97 [] [] [q98] fun ks a b c d e f g h i j k l o p q r s t u v w x y z A B C D E G H I J K L M N O P Q=>F.za.ca n (fun R S T U=>xr q98 ks R b c d e f g h S T U l o p q r s t u v w x y z A B C D E G H I J K L M N O P Q) a h i j k
def q99:Shape:=⟨rZ,r8,t153,[],[],20,6,0⟩
def Q':Shape:=⟨um,r8,t153,[],[],20,6,0⟩
noncomputable def Ra(X:Type)(n:Nat):ar X:=aF 6 20 6 0 q99 [] [] [Q'] fun ks a b c d e f g h i j k l o p q r s t u v w x y z A B C D E G H I J K L M N O P=>F.za.dn n (fun Q R S T=>xr Q' ks Q a b c d e f g R S T k l o p q r s t u v w x y z A B C D E G H I J K L M N O P) g h i j
def ai_:Shape:=⟨[(0,(.const (.fn 83 [] [(.ref 19 0)]))),(5,V8),(6,V0)],r8,t153,[],[],20,6,0⟩
def Rb:Shape:=⟨vY,r8,t153,[],[],20,6,0⟩
def Rc:Shape:=⟨vZ,r8,t153,[],[],20,6,0⟩
noncomputable def Re(X:Type)(n:Nat):bm X:=dp 8 20 6 0 ai_ [(0,Rb)] [Rc] n fun m ks a b c d e f g h i j k l o p q r s t u v w x y z A B C D E G H I J K L M N O P Q R=>F.za.cm n (fun S T U V W=>xe Rb ks 0 S T c d e f g h i U V W o p q r s t u v w x y z A B C D E G H I J K L M N O P Q R) (fun S T U V W Y=>xr Rc ks S T U c d e f g h i V W Y o p q r s t u v w x y z A B C D E G H I J K L M N O P Q R) m a b i j k l
noncomputable def Rf(X:Type)(n:Nat):ar X:=aF 8 20 6 0 q95 [MK] [] [] fun ks a b c d e f g h i j k l o p q r s t u v w x y z A B C D E G H I J K L M N O P Q R S=>F.za.aa n (fun T U=>xn MK ks d e f g h i j k T U p q r s t u v w x y z A B C D E G H I J K L M N O P Q R S) a b c l o
def ai':Shape:=⟨[(1,(.const (.ref 19 0)))],r8,t153,[],[],20,6,0⟩
def Rg:Shape:=⟨[(2,V8)],HZ,t153,[],[],19,6,0⟩
noncomputable def Rh(X:Type)(n:Nat):ar X:=aF 9 19 6 0 ai' [] [] [Rg] fun ks a b c d e f g h i j k l o p q r s t u v w x y z A B C D E G H I J K L M N O P=>F.za.cp n (fun Q R S T=>xr Rg ks Q a b c d e f g R S T k l o p q r s t u v w x y z A B C D E G H I J K L M N O P) g h i j
def Ri:Shape:=⟨iW,v7,t153,[],[],20,6,0⟩
def Ed:Shape:=⟨[],v7,t153,[],[],20,6,0⟩
noncomputable def Rj(X:Type)(n:Nat):ar X:=aF 8 20 6 0 Ri [Ed] [] [] fun ks a b c d e f g h i j k l o p q r s t u v w x y z A B C D E G H I J K L M N O P Q R S T U=>F.za.aa n (fun V W=>xn Ed ks d e f g h i j k V W p q r s t u v w x y z A B C D E G H I J K L M N O P Q R S T U) a b c l o
def Rk:Shape:=⟨iW,r9,t153,[],[],21,6,0⟩
def Ee:Shape:=⟨[],r9,t153,[],[],21,6,0⟩
noncomputable def Rl(X:Type)(n:Nat):ar X:=aF 3 21 6 0 Rk [Ee] [] [] fun ks a b c d e f g h i j k l o p q r s t u v w x y z A B C D E G H I J K L M N O P Q R S T U=>F.za.aa n (fun V W=>xn Ee ks d e f g h i j k V W p q r s t u v w x y z A B C D E G H I J K L M N O P Q R S T U) a b c l o
def aja:Shape:=⟨qV,r9,t153,[],[],21,6,0⟩
def Rm:Shape:=⟨[(4,V7)],r9,t153,[],[],21,6,0⟩
noncomputable def Rn(X:Type)(n:Nat):ar X:=aF 4 21 6 0 aja [] [] [Rm] fun ks a b c d e f g h i j k l o p q r s t u v w x y z A B C D E G H I J K L M N O P Q R S=>F.za.ca n (fun T U V W=>xr Rm ks T b c d e f g h U V W l o p q r s t u v w x y z A B C D E G H I J K L M N O P Q R S) a h i j k
def ajb:Shape:=⟨rZ,r9,t153,[],[],21,6,0⟩
def Ro:Shape:=⟨um,r9,t153,[],[],21,6,0⟩
noncomputable def Rp(X:Type)(n:Nat):ar X:=aF 5 21 6 0 ajb [] [] [Ro] fun ks a b c d e f g h i j k l o p q r s t u v w x y z A B C D E G H I J K L M N O P Q R=>F.za.dn n (fun S T U V=>xr Ro ks S a b c d e f g T U V k l o p q r s t u v w x y z A B C D E G H I J K L M N O P Q R) g h i j
def ajc:Shape:=⟨N5,r9,t153,[],[],21,6,0⟩
def Rq:Shape:=⟨vY,r9,t153,[],[],21,6,0⟩
def Rr:Shape:=⟨vZ,r9,t153,[],[],21,6,0⟩
noncomputable def Rs(X:Type)(n:Nat):bm X:=dp 7 21 6 0 ajc [(0,Rq)] [Rr] n fun m ks a b c d e f g h i j k l o p q r s t u v w x y z A B C D E G H I J K L M N O P Q R S T=>F.za.cm n (fun U V W Y Z=>xe Rq ks 0 U V c d e f g h i W Y Z o p q r s t u v w x y z A B C D E G H I J K L M N O P Q R S T) (fun U V W Y Z a0=>xr Rr ks U V W c d e f g h i Y Z a0 o p q r s t u v w x y z A B C D E G H I J K L M N O P Q R S T) m a b i j k l
noncomputable def Rt(X:Type)(n:Nat):ar X:=aF 7 21 6 0 Rk [Ee] [] [] fun ks a b c d e f g h i j k l o p q r s t u v w x y z A B C D E G H I J K L M N O P Q R S T U=>F.za.aa n (fun V W=>xn Ee ks d e f g h i j k V W p q r s t u v w x y z A B C D E G H I J K L M N O P Q R S T U) a b c l o
def ajd:Shape:=⟨N6,r9,t153,[],[],21,6,0⟩
def Ru:Shape:=⟨[(2,V8)],v7,t153,[],[],20,6,0⟩
noncomputable def Rv(X:Type)(n:Nat):ar X:=aF 8 20 6 0 ajd [] [] [Ru] fun ks a b c d e f g h i j k l o p q r s t u v w x y z A B C D E G H I J K L M N O P Q R=>F.za.cp n (fun S T U V=>xr Ru ks S a b c d e f g T U V k l o p q r s t u v w x y z A B C D E G H I J K L M N O P Q R) g h i j
def aje:Shape:=⟨iW,DZ,t153,[],[],21,6,0⟩
def Rw:Shape:=⟨[],DZ,t153,[],[],21,6,0⟩
noncomputable def Rx(X:Type)(n:Nat):ar X:=aF 7 21 6 0 aje [Rw] [] [] fun ks a b c d e f g h i j k l o p q r s t u v w x y z A B C D E G H I J K L M N O P Q R S T U V=>F.za.aa n (fun W Y=>xn Rw ks d e f g h i j k W Y p q r s t u v w x y z A B C D E G H I J K L M N O P Q R S T U V) a b c l o
def ajf:Shape:=⟨qV,DZ,t153,[],[],21,6,0⟩
def Ry:Shape:=⟨[(4,V7)],DZ,t153,[],[],21,6,0⟩
noncomputable def Rz(X:Type)(n:Nat):ar X:=aF 8 21 6 0 ajf [] [] [Ry] fun ks a b c d e f g h i j k l o p q r s t u v w x y z A B C D E G H I J K L M N O P Q R S T=>F.za.ca n (fun U V W Y=>xr Ry ks U b c d e f g h V W Y l o p q r s t u v w x y z A B C D E G H I J K L M N O P Q R S T) a h i j k
def RA:Shape:=⟨iW,D0,t153,[],[],22,6,0⟩
def Ef:Shape:=⟨[],D0,t153,[],[],22,6,0⟩
noncomputable def RB(X:Type)(n:Nat):ar X:=aF 7 22 6 0 RA [Ef] [] [] fun ks a b c d e f g h i j k l o p q r s t u v w x y z A B C D E G H I J K L M N O P Q R S T U V W Y=>F.za.aa n (fun Z a0=>xn Ef ks d e f g h i j k Z a0 p q r s t u v w x y z A B C D E G H I J K L M N O P Q R S T U V W Y) a b c l o
def ajg:Shape:=⟨[(0,v46),(1,V0),(2,.str),(3,(.const (.fn 240 [] [(.ref 20 0)])))],D0,t153,[],[],22,6,0⟩
def RC:Shape:=⟨D1,D0,t153,[],[],22,6,0⟩
noncomputable def RD(X:Type)(n:Nat):ar X:=aF 8 22 6 0 ajg [] [] [RC] fun ks a b c d e f g h i j k l o p q r s t u v w x y z A B C D E G H I J K L M N O P Q R S T U V W=>F.za.ji n (fun Y Z a0=>xr RC ks Y c d e f g h i j Z a0 o p q r s t u v w x y z A B C D E G H I J K L M N O P Q R S T U V W) a b k l O
noncomputable def RE(X:Type)(n:Nat):ar X:=aF 8 22 6 0 RA [Ef] [] [] fun ks a b c d e f g h i j k l o p q r s t u v w x y z A B C D E G H I J K L M N O P Q R S T U V W Y=>F.za.aa n (fun Z a0=>xn Ef ks d e f g h i j k Z a0 p q r s t u v w x y z A B C D E G H I J K L M N O P Q R S T U V W Y) a b c l o
def ajh:Shape:=⟨N7,v7,t153,[],[],20,6,0⟩
def Eg:Shape:=⟨D3,v7,t153,[],[],20,6,0⟩
noncomputable def RF(X:Type)(n:Nat):ar X:=aF 9 20 6 0 ajh [] [] [Eg] fun ks a b c d e f g h i j k l o p q r s t u v w x y z A B C D E G H I J K L M N O P Q R S T U=>F.za.dX n (fun V W Y Z a0 b0 c0=>xr Eg ks V d e f g h i j W Y Z p a0 b0 s t u v w x y z A B C D E G H I J K L M N O P c0 R S T U) a b c j k l o q r Q
def aji:Shape:=⟨N8,v7,t153,[],[],20,6,0⟩
noncomputable def RG(X:Type)(n:Nat):ar X:=aF 9 20 6 0 aji [] [] [Eg] fun ks a b c d e f g h i j k l o p q r s t u v w x y z A B C D E G H I J K L M N O P Q R S T=>F.za.fZ n (fun U V W Y Z a0 b0=>xr Eg ks U c d e f g h i V W Y o Z a0 r s t u v w x y z A B C D E G H I J K L M N O b0 Q R S T) a b i j k l p q P
noncomputable def RH(X:Type)(n:Nat):ar X:=aF 9 20 6 0 Ri [Ed] [] [] fun ks a b c d e f g h i j k l o p q r s t u v w x y z A B C D E G H I J K L M N O P Q R S T U=>F.za.aa n (fun V W=>xn Ed ks d e f g h i j k V W p q r s t u v w x y z A B C D E G H I J K L M N O P Q R S T U) a b c l o
def ajj:Shape:=⟨[(0,v46),(1,V0),(2,.str),(3,(.const (.fn 205 [] [(.ref 18 0)])))],v7,t153,[],[],20,6,0⟩
def RI:Shape:=⟨D1,v7,t153,[],[],20,6,0⟩
noncomputable def RJ(X:Type)(n:Nat):ar X:=aF 9 20 6 0 ajj [] [] [RI] fun ks a b c d e f g h i j k l o p q r s t u v w x y z A B C D E G H I J K L M N O P Q R S T=>F.za.hU n (fun U V W=>xr RI ks U c d e f g h i j V W o p q r s t u v w x y z A B C D E G H I J K L M N O P Q R S T) a b k l L
def ajk:Shape:=⟨N9,v8,t153,[],[],16,6,0⟩
def RL:Shape:=⟨N_,v8,t153,[],[],16,6,0⟩
noncomputable def RM(X:Type)(n:Nat):ar X:=aF 10 16 6 0 ajk [] [] [RL] fun ks a b c d e f g h i j k l o p q r s t u v w x y z A B C D E G H I J K L=>F.za.gL n (fun M N O P Q R S=>xr RL ks M b c d e f g h N O P l Q R q r s t u v w x y z A B C D E G S I J K L) a h i j k o p H
def ajl:Shape:=⟨iW,v8,t153,[],[],16,6,0⟩
def RN:Shape:=⟨[],v8,t153,[],[],16,6,0⟩
noncomputable def RO(X:Type)(n:Nat):ar X:=aF 11 16 6 0 ajl [RN] [] [] fun ks a b c d e f g h i j k l o p q r s t u v w x y z A B C D E G H I J K L M N=>F.za.aa n (fun O P=>xn RN ks d e f g h i j k O P p q r s t u v w x y z A B C D E G H I J K L M N) a b c l o
def ajm:Shape:=⟨[(0,v46),(1,V0),(2,(.const (.fn 152 [] [(.ref 11 0),(.ref 12 0),(.ref 13 0)]))),(3,(.const (.fn 154 [] [(.ref 14 0),(.ref 15 0)])))],v8,t153,[],[],16,6,0⟩
def RP:Shape:=⟨D3,v8,t153,[],[],16,6,0⟩
noncomputable def RQ(X:Type)(n:Nat):ar X:=aF 12 16 6 0 ajm [] [] [RP] fun ks a b c d e f g h i j k l o p q r s t u v w x y z A B C D E G H I J K L=>F.za.gM n (fun M N O P Q R S=>xr RP ks M b c d e f g h N O P l Q R q r s t u v w x y z A B C D E G S I J K L) a h i j k o p C D E H
def ajn:Shape:=⟨Ob,v8,t153,[],[],16,4,0⟩
def RR:Shape:=⟨H2,mz,t153,[],[],11,4,0⟩
noncomputable def RS(X:Type)(n:Nat):ar X:=aF 13 11 4 0 ajn [] [] [RR] fun ks a b c d e f g h i j k l o p q r s t u v w x y z A B C D E G H I J K L=>F.za.gN n (fun M N O P Q R S=>xr RR ks M b c d e f g h N O P l Q R q r s t u v w x y z A B G S I J K L) a h i j k o p C D E H
def RT:Shape:=⟨iW,mz,t153,[],[],11,6,0⟩
def Eh:Shape:=⟨[],mz,t153,[],[],11,6,0⟩
noncomputable def RU(X:Type)(n:Nat):ar X:=aF 9 11 6 0 RT [Eh] [] [] fun ks a b c d e f g h i j k l o p q r s t u v w x y z A B C D E G H I J K=>F.za.aa n (fun L M=>xn Eh ks d e f g h i j k L M p q r s t u v w x y z A B C D E G H I J K) a b c l o
def ajo:Shape:=⟨qV,mz,t153,[],[],11,6,0⟩
def RW:Shape:=⟨[(4,V7)],mz,t153,[],[],11,6,0⟩
noncomputable def RX(X:Type)(n:Nat):ar X:=aF 10 11 6 0 ajo [] [] [RW] fun ks a b c d e f g h i j k l o p q r s t u v w x y z A B C D E G H I=>F.za.ca n (fun J K L M=>xr RW ks J b c d e f g h K L M l o p q r s t u v w x y z A B C D E G H I) a h i j k
def ajp:Shape:=⟨rZ,mz,t153,[],[],11,6,0⟩
def RY:Shape:=⟨um,mz,t153,[],[],11,6,0⟩
noncomputable def RZ(X:Type)(n:Nat):ar X:=aF 11 11 6 0 ajp [] [] [RY] fun ks a b c d e f g h i j k l o p q r s t u v w x y z A B C D E G H=>F.za.dn n (fun I J K L=>xr RY ks I a b c d e f g J K L k l o p q r s t u v w x y z A B C D E G H) g h i j
noncomputable def R0(X:Type)(n:Nat):ar X:=aF 12 11 6 0 RT [Eh] [] [] fun ks a b c d e f g h i j k l o p q r s t u v w x y z A B C D E G H I J K=>F.za.aa n (fun L M=>xn Eh ks d e f g h i j k L M p q r s t u v w x y z A B C D E G H I J K) a b c l o
def ajq:Shape:=⟨[(0,v46),(1,V0),(2,(.const (.fn 90 [] [(.ref 8 0)]))),(3,(.const (.fn 91 [] [])))],mz,t153,[],[],11,6,0⟩
def Ei:Shape:=⟨[(8,V0)],mz,t153,[],[],11,6,0⟩
noncomputable def R1(X:Type)(n:Nat):ar X:=aF 13 11 6 0 ajq [] [] [Ei] fun ks a b c d e f g h i j k l o p q r s t u v w x y z A B C D E G H I=>F.za.iV n (fun J K L M=>xr Ei ks J b c d e f g h K L M l o p q r s t u v w x y z A B C D E G H I) a h i j k
def R2:Shape:=⟨iW,r_,t153,[],[],15,6,0⟩
def Ej:Shape:=⟨[],r_,t153,[],[],15,6,0⟩
noncomputable def R_(X:Type)(n:Nat):ar X:=aF 5 15 6 0 R2 [Ej] [] [] fun ks a b c d e f g h i j k l o p q r s t u v w x y z A B C D E G H I J K L M=>F.za.aa n (fun N O=>xn Ej ks d e f g h i j k N O p q r s t u v w x y z A B C D E G H I J K L M) a b c l o
def ajr:Shape:=⟨qV,r_,t153,[],[],15,6,0⟩
def R':Shape:=⟨[(4,V7)],r_,t153,[],[],15,6,0⟩
noncomputable def Sa(X:Type)(n:Nat):ar X:=aF 6 15 6 0 ajr [] [] [R'] fun ks a b c d e f g h i j k l o p q r s t u v w x y z A B C D E G H I J K=>F.za.ca n (fun L M N O=>xr R' ks L b c d e f g h M N O l o p q r s t u v w x y z A B C D E G H I J K) a h i j k
def ajs:Shape:=⟨rZ,r_,t153,[],[],15,6,0⟩
def Sb:Shape:=⟨um,r_,t153,[],[],15,6,0⟩
noncomputable def Sc(X:Type)(n:Nat):ar X:=aF 7 15 6 0 ajs [] [] [Sb] fun ks a b c d e f g h i j k l o p q r s t u v w x y z A B C D E G H I J=>F.za.dn n (fun K L M N=>xr Sb ks K a b c d e f g L M N k l o p q r s t u v w x y z A B C D E G H I J) g h i j
def ajt:Shape:=⟨[(0,(.const (.fn 83 [] [(.ref 14 0)]))),(5,V8),(6,V0)],r_,t153,[],[],15,6,0⟩
def Sd:Shape:=⟨vY,r_,t153,[],[],15,6,0⟩
def Se:Shape:=⟨vZ,r_,t153,[],[],15,6,0⟩
noncomputable def Sf(X:Type)(n:Nat):bm X:=dp 9 15 6 0 ajt [(0,Sd)] [Se] n fun m ks a b c d e f g h i j k l o p q r s t u v w x y z A B C D E G H I J K L=>F.za.cm n (fun M N O P Q=>xe Sd ks 0 M N c d e f g h i O P Q o p q r s t u v w x y z A B C D E G H I J K L) (fun M N O P Q R=>xr Se ks M N O c d e f g h i P Q R o p q r s t u v w x y z A B C D E G H I J K L) m a b i j k l
noncomputable def Sg(X:Type)(n:Nat):ar X:=aF 9 15 6 0 R2 [Ej] [] [] fun ks a b c d e f g h i j k l o p q r s t u v w x y z A B C D E G H I J K L M=>F.za.aa n (fun N O=>xn Ej ks d e f g h i j k N O p q r s t u v w x y z A B C D E G H I J K L M) a b c l o
def aju:Shape:=⟨[(1,H0)],r_,t153,[],[],15,6,0⟩
def Sh:Shape:=⟨[(2,V8)],zG,t153,[],[],14,6,0⟩
noncomputable def Si(X:Type)(n:Nat):ar X:=aF 10 14 6 0 aju [] [] [Sh] fun ks a b c d e f g h i j k l o p q r s t u v w x y z A B C D E G H I J=>F.za.cp n (fun K L M N=>xr Sh ks K a b c d e f g L M N k l o p q r s t u v w x y z A B C D E G H I J) g h i j
def ajv:Shape:=⟨iW,zG,t153,[],[],14,6,0⟩
def Sj:Shape:=⟨[],zG,t153,[],[],14,6,0⟩
noncomputable def Sk(X:Type)(n:Nat):ar X:=aF 11 14 6 0 ajv [Sj] [] [] fun ks a b c d e f g h i j k l o p q r s t u v w x y z A B C D E G H I J K L M=>F.za.aa n (fun N O=>xn Sj ks d e f g h i j k N O p q r s t u v w x y z A B C D E G H I J K L M) a b c l o
def ajw:Shape:=⟨[(0,v46),(1,V0),(2,(.const (.fn 156 [] [(.ref 11 0)]))),(3,(.const (.fn 157 [] [(.ref 12 0),(.ref 13 0)])))],zG,t153,[],[],14,6,0⟩
def Sl:Shape:=⟨[(8,V8)],zG,t153,[],[],14,6,0⟩
noncomputable def Sm(X:Type)(n:Nat):ar X:=aF 12 14 6 0 ajw [] [] [Sl] fun ks a b c d e f g h i j k l o p q r s t u v w x y z A B C D E G H I J K=>F.za.jj n (fun L M N O=>xr Sl ks L b c d e f g h M N O l o p q r s t u v w x y z A B C D E G H I J K) a h i j k C D
def ajx:Shape:=⟨[(3,V0),(4,v_),(5,v182),(6,v183)],zG,t153,[],[],14,6,0⟩
noncomputable def Sn(X:Type)(n:Nat):ar X:=aF 13 11 6 0 ajx [] [] [Ei] fun ks a b c d e f g h i j k l o p q r s t u v w x y z A B C D E G H I J K=>F.za.gw n (fun L M N O=>xr Ei ks L b c d e f g h M N O l o p q r s t u v w x y z A B E G H I J K) a h i j k C D
def Sp:Shape:=⟨iW,sf,t153,[],[],13,6,0⟩
def Ek:Shape:=⟨[],sf,t153,[],[],13,6,0⟩
noncomputable def Sq(X:Type)(n:Nat):ar X:=aF 7 13 6 0 Sp [Ek] [] [] fun ks a b c d e f g h i j k l o p q r s t u v w x y z A B C D E G H I J K L M N=>F.za.aa n (fun O P=>xn Ek ks d e f g h i j k O P p q r s t u v w x y z A B C D E G H I J K L M N) a b c l o
def ajy:Shape:=⟨qV,sf,t153,[],[],13,6,0⟩
def Sr:Shape:=⟨[(4,V7)],sf,t153,[],[],13,6,0⟩
noncomputable def Ss(X:Type)(n:Nat):ar X:=aF 8 13 6 0 ajy [] [] [Sr] fun ks a b c d e f g h i j k l o p q r s t u v w x y z A B C D E G H I J K L=>F.za.ca n (fun M N O P=>xr Sr ks M b c d e f g h N O P l o p q r s t u v w x y z A B C D E G H I J K L) a h i j k
def ajz:Shape:=⟨rZ,sf,t153,[],[],13,6,0⟩
def Su:Shape:=⟨um,sf,t153,[],[],13,6,0⟩
noncomputable def Sv(X:Type)(n:Nat):ar X:=aF 9 13 6 0 ajz [] [] [Su] fun ks a b c d e f g h i j k l o p q r s t u v w x y z A B C D E G H I J K=>F.za.dn n (fun L M N O=>xr Su ks L a b c d e f g M N O k l o p q r s t u v w x y z A B C D E G H I J K) g h i j
def ajA:Shape:=⟨[(0,(.const (.fn 83 [] [(.ref 12 0)]))),(5,V8),(6,V0)],sf,t153,[],[],13,6,0⟩
def Sw:Shape:=⟨vY,sf,t153,[],[],13,6,0⟩
def Sx:Shape:=⟨vZ,sf,t153,[],[],13,6,0⟩
noncomputable def Sy(X:Type)(n:Nat):bm X:=dp 11 13 6 0 ajA [(0,Sw)] [Sx] n fun m ks a b c d e f g h i j k l o p q r s t u v w x y z A B C D E G H I J K L M=>F.za.cm n (fun N O P Q R=>xe Sw ks 0 N O c d e f g h i P Q R o p q r s t u v w x y z A B C D E G H I J K L M) (fun N O P Q R S=>xr Sx ks N O P c d e f g h i Q R S o p q r s t u v w x y z A B C D E G H I J K L M) m a b i j k l
noncomputable def Sz(X:Type)(n:Nat):ar X:=aF 11 13 6 0 Sp [Ek] [] [] fun ks a b c d e f g h i j k l o p q r s t u v w x y z A B C D E G H I J K L M N=>F.za.aa n (fun O P=>xn Ek ks d e f g h i j k O P p q r s t u v w x y z A B C D E G H I J K L M N) a b c l o
def ajB:Shape:=⟨[(1,v182)],sf,t153,[],[],13,6,0⟩
def SA:Shape:=⟨[(2,V8)],H3,t153,[],[],12,6,0⟩
noncomputable def SB(X:Type)(n:Nat):ar X:=aF 12 12 6 0 ajB [] [] [SA] fun ks a b c d e f g h i j k l o p q r s t u v w x y z A B C D E G H I J K=>F.za.cp n (fun L M N O=>xr SA ks L a b c d e f g M N O k l o p q r s t u v w x y z A B C D E G H I J K) g h i j
def SC:Shape:=⟨iW,sg,t153,[],[],14,6,0⟩
def El:Shape:=⟨[],sg,t153,[],[],14,6,0⟩
noncomputable def IK(X:Type)(n:Nat):ar X:=aF 7 14 6 0 SC [El] [] [] fun ks a b c d e f g h i j k l o p q r s t u v w x y z A B C D E G H I J K L M N O P Q=>F.za.aa n (fun R S=>xn El ks d e f g h i j k R S p q r s t u v w x y z A B C D E G H I J K L M N O P Q) a b c l o
def ajC:Shape:=⟨qV,sg,t153,[],[],14,6,0⟩
def SD:Shape:=⟨[(4,V7)],sg,t153,[],[],14,6,0⟩
noncomputable def IL(X:Type)(n:Nat):ar X:=aF 8 14 6 0 ajC [] [] [SD] fun ks a b c d e f g h i j k l o p q r s t u v w x y z A B C D E G H I J K L M N O=>F.za.ca n (fun P Q R S=>xr SD ks P b c d e f g h Q R S l o p q r s t u v w x y z A B C D E G H I J K L M N O) a h i j k
def ajD:Shape:=⟨rZ,sg,t153,[],[],14,6,0⟩
def SE:Shape:=⟨um,sg,t153,[],[],14,6,0⟩
noncomputable def IM(X:Type)(n:Nat):ar X:=aF 9 14 6 0 ajD [] [] [SE] fun ks a b c d e f g h i j k l o p q r s t u v w x y z A B C D E G H I J K L M N=>F.za.dn n (fun O P Q R=>xr SE ks O a b c d e f g P Q R k l o p q r s t u v w x y z A B C D E G H I J K L M N) g h i j
def ajE:Shape:=⟨[(0,(.const (.fn 83 [] [(.ref 13 0)]))),(5,V8),(6,V0)],sg,t153,[],[],14,6,0⟩
def SF:Shape:=⟨vY,sg,t153,[],[],14,6,0⟩
def SG:Shape:=⟨vZ,sg,t153,[],[],14,6,0⟩
noncomputable def IP(X:Type)(n:Nat):bm X:=dp 11 14 6 0 ajE [(0,SF)] [SG] n fun m ks a b c d e f g h i j k l o p q r s t u v w x y z A B C D E G H I J K L M N O P=>F.za.cm n (fun Q R S T U=>xe SF ks 0 Q R c d e f g h i S T U o p q r s t u v w x y z A B C D E G H I J K L M N O P) (fun Q R S T U V=>xr SG ks Q R S c d e f g h i T U V o p q r s t u v w x y z A B C D E G H I J K L M N O P) m a b i j k l
noncomputable def IQ(X:Type)(n:Nat):ar X:=aF 11 14 6 0 SC [El] [] [] fun ks a b c d e f g h i j k l o p q r s t u v w x y z A B C D E G H I J K L M N O P Q=>F.za.aa n (fun R S=>xn El ks d e f g h i j k R S p q r s t u v w x y z A B C D E G H I J K L M N O P Q) a b c l o
def ajF:Shape:=⟨[(1,v183)],sg,t153,[],[],14,6,0⟩
def SH:Shape:=⟨[(2,V8)],[[V0,V0],[v42],[V0],[V0,V0],[v46],h_,[.mp],iJ,[v46],ia,jl,vn,vn],t153,[],[],13,6,0⟩
noncomputable def IU(X:Type)(n:Nat):ar X:=aF 12 13 6 0 ajF [] [] [SH] fun ks a b c d e f g h i j k l o p q r s t u v w x y z A B C D E G H I J K L M N=>F.za.cp n (fun O P Q R=>xr SH ks O a b c d e f g P Q R k l o p q r s t u v w x y z A B C D E G H I J K L M N) g h i j
def ajG:Shape:=⟨iW,Oc,t153,[],[],14,6,0⟩
def SJ:Shape:=⟨[],Oc,t153,[],[],14,6,0⟩
noncomputable def IV(X:Type)(n:Nat):ar X:=aF 12 14 6 0 ajG [SJ] [] [] fun ks a b c d e f g h i j k l o p q r s t u v w x y z A B C D E G H I J K L M N O P Q R S=>F.za.aa n (fun T U=>xn SJ ks d e f g h i j k T U p q r s t u v w x y z A B C D E G H I J K L M N O P Q R S) a b c l o
def ajH:Shape:=⟨[(0,v46),(2,v_)],H3,t153,[],[],12,6,0⟩
def SK:Shape:=⟨[(2,v_)],H3,t153,[],[],12,6,0⟩
noncomputable def IW(X:Type)(n:Nat):ar X:=aF 13 11 6 0 ajH [] [] [SK] fun ks a b c d e f g h i j k l o p q r s t u v w x y z A _ _ _ B C D E G H=>F.za.kM n (fun I J K L M N=>xr SK ks a b c d e f g I J K k l o p q r s t u v w x y z A L M N B C D E G H) g h i j
def B8:Shape:=⟨[(0,v77),(3,qW),(4,pW),(5,si),(6,V0)],mz,t153,[],[],11,2,0⟩
noncomputable def IX(X:Type)(n:Nat):ar X:=aF 14 8 2 0 B8 [B8] [] [] fun ks a b c d e f g h i j k l o p q r s t u v w x y z A B C D E G H I=>F.za.qQ n (fun J K L M N O=>xn B8 ks J b c d e f g h K L M l o p q r s t u v w x N z A B C D E G O I) a h i j k w x y z A B H
def wc:Shape:=⟨[(0,v77),(3,qW),(4,pW),(5,si)],mz,t153,[],[],11,2,0⟩
noncomputable def IY(X:Type)(n:Nat):bm X:=dp 14 8 2 0 B8 [(0,wc)] [] n fun m ks a b c d e f g h i j k l o p q r s t u v w x y z A B C D E G H I=>F.za.gO n (fun J K L M N=>xe wc ks 0 b c d e f g h J K L l o p q r s t u v w x M z A B C D E G N I) m a h i j k w x y z A B H
noncomputable def IZ(X:Type)(n:Nat):ar X:=aF 14 8 2 0 B8 [wc] [] [] fun ks a b c d e f g h i j k l o p q r s t u v w x y z A B C D E G H I=>F.za.qR n (fun J K L M N=>xn wc ks b c d e f g h J K L l o p q r s t u v w x M z A B C D E G N I) a h i j k w x y z A B H
def ajI:Shape:=⟨Ob,v8,t153,[],[],16,6,0⟩
def SL:Shape:=⟨H2,mz,t153,[],[],11,6,0⟩
noncomputable def I0(X:Type)(n:Nat):ar X:=aF 13 11 6 0 ajI [] [] [SL] fun ks a b c d e f g h i j k l o p q r s t u v w x y z A B C D E G H I J K L=>F.za.gN n (fun M N O P Q R S=>xr SL ks M b c d e f g h N O P l Q R q r s t u v w x y z A B G S I J K L) a h i j k o p C D E H
def ajJ:Shape:=⟨iW,H4,t153,[],[],20,6,0⟩
def SM:Shape:=⟨[],H4,t153,[],[],20,6,0⟩
noncomputable def I1(X:Type)(n:Nat):ar X:=aF 9 20 6 0 ajJ [SM] [] [] fun ks a b c d e f g h i j k l o p q r s t u v w x y z A B C D E G H I J K L M N O P Q R S T U=>F.za.aa n (fun V W=>xn SM ks d e f g h i j k V W p q r s t u v w x y z A B C D E G H I J K L M N O P Q R S T U) a b c l o
def SN:Shape:=⟨iW,sj,t153,[],[],21,6,0⟩
def Em:Shape:=⟨[],sj,t153,[],[],21,6,0⟩
noncomputable def I2(X:Type)(n:Nat):ar X:=aF 4 21 6 0 SN [Em] [] [] fun ks a b c d e f g h i j k l o p q r s t u v w x y z A B C D E G H I J K L M N O P Q R S T U=>F.za.aa n (fun V W=>xn Em ks d e f g h i j k V W p q r s t u v w x y z A B C D E G H I J K L M N O P Q R S T U) a b c l o
def ajK:Shape:=⟨qV,sj,t153,[],[],21,6,0⟩
def SP:Shape:=⟨[(4,V7)],sj,t153,[],[],21,6,0⟩
noncomputable def I3(X:Type)(n:Nat):ar X:=aF 5 21 6 0 ajK [] [] [SP] fun ks a b c d e f g h i j k l o p q r s t u v w x y z A B C D E G H I J K L M N O P Q R S=>F.za.ca n (fun T U V W=>xr SP ks T b c d e f g h U V W l o p q r s t u v w x y z A B C D E G H I J K L M N O P Q R S) a h i j k
def ajL:Shape:=⟨rZ,sj,t153,[],[],21,6,0⟩
def SQ:Shape:=⟨um,sj,t153,[],[],21,6,0⟩
noncomputable def I4(X:Type)(n:Nat):ar X:=aF 6 21 6 0 ajL [] [] [SQ] fun ks a b c d e f g h i j k l o p q r s t u v w x y z A B C D E G H I J K L M N O P Q R=>F.za.dn n (fun S T U V=>xr SQ ks S a b c d e f g T U V k l o p q r s t u v w x y z A B C D E G H I J K L M N O P Q R) g h i j
def ajM:Shape:=⟨N5,sj,t153,[],[],21,6,0⟩
def SR:Shape:=⟨vY,sj,t153,[],[],21,6,0⟩
def SS:Shape:=⟨vZ,sj,t153,[],[],21,6,0⟩
noncomputable def I5(X:Type)(n:Nat):bm X:=dp 8 21 6 0 ajM [(0,SR)] [SS] n fun m ks a b c d e f g h i j k l o p q r s t u v w x y z A B C D E G H I J K L M N O P Q R S T=>F.za.cm n (fun U V W Y Z=>xe SR ks 0 U V c d e f g h i W Y Z o p q r s t u v w x y z A B C D E G H I J K L M N O P Q R S T) (fun U V W Y Z a0=>xr SS ks U V W c d e f g h i Y Z a0 o p q r s t u v w x y z A B C D E G H I J K L M N O P Q R S T) m a b i j k l
noncomputable def I6(X:Type)(n:Nat):ar X:=aF 8 21 6 0 SN [Em] [] [] fun ks a b c d e f g h i j k l o p q r s t u v w x y z A B C D E G H I J K L M N O P Q R S T U=>F.za.aa n (fun V W=>xn Em ks d e f g h i j k V W p q r s t u v w x y z A B C D E G H I J K L M N O P Q R S T U) a b c l o
def ajN:Shape:=⟨N6,sj,t153,[],[],21,6,0⟩
def SU:Shape:=⟨[(2,V8)],H4,t153,[],[],20,6,0⟩
noncomputable def I7(X:Type)(n:Nat):ar X:=aF 9 20 6 0 ajN [] [] [SU] fun ks a b c d e f g h i j k l o p q r s t u v w x y z A B C D E G H I J K L M N O P Q R=>F.za.cp n (fun S T U V=>xr SU ks S a b c d e f g T U V k l o p q r s t u v w x y z A B C D E G H I J K L M N O P Q R) g h i j
def SX:Shape:=⟨iW,wa,t153,[],[],21,6,0⟩
def En:Shape:=⟨[],wa,t153,[],[],21,6,0⟩
noncomputable def I8(X:Type)(n:Nat):ar X:=aF 8 21 6 0 SX [En] [] [] fun ks a b c d e f g h i j k l o p q r s t u v w x y z A B C D E G H I J K L M N O P Q R S T U V W=>F.za.aa n (fun Y Z=>xn En ks d e f g h i j k Y Z p q r s t u v w x y z A B C D E G H I J K L M N O P Q R S T U V W) a b c l o
def SY:Shape:=⟨iW,sk,t153,[],[],22,6,0⟩
def Eo:Shape:=⟨[],sk,t153,[],[],22,6,0⟩
noncomputable def I9(X:Type)(n:Nat):ar X:=aF 3 22 6 0 SY [Eo] [] [] fun ks a b c d e f g h i j k l o p q r s t u v w x y z A B C D E G H I J K L M N O P Q R S T U V W=>F.za.aa n (fun Y Z=>xn Eo ks d e f g h i j k Y Z p q r s t u v w x y z A B C D E G H I J K L M N O P Q R S T U V W) a b c l o
def ajO:Shape:=⟨qV,sk,t153,[],[],22,6,0⟩
def SZ:Shape:=⟨[(4,V7)],sk,t153,[],[],22,6,0⟩
noncomputable def I_(X:Type)(n:Nat):ar X:=aF 4 22 6 0 ajO [] [] [SZ] fun ks a b c d e f g h i j k l o p q r s t u v w x y z A B C D E G H I J K L M N O P Q R S T U=>F.za.ca n (fun V W Y Z=>xr SZ ks V b c d e f g h W Y Z l o p q r s t u v w x y z A B C D E G H I J K L M N O P Q R S T U) a h i j k
def ajP:Shape:=⟨rZ,sk,t153,[],[],22,6,0⟩
def S0:Shape:=⟨um,sk,t153,[],[],22,6,0⟩
noncomputable def I'(X:Type)(n:Nat):ar X:=aF 5 22 6 0 ajP [] [] [S0] fun ks a b c d e f g h i j k l o p q r s t u v w x y z A B C D E G H I J K L M N O P Q R S T=>F.za.dn n (fun U V W Y=>xr S0 ks U a b c d e f g V W Y k l o p q r s t u v w x y z A B C D E G H I J K L M N O P Q R S T) g h i j
def ajQ:Shape:=⟨[(0,(.const (.fn 83 [] [(.ref 21 0)]))),(5,V8),(6,V0)],sk,t153,[],[],22,6,0⟩
def S1:Shape:=⟨vY,sk,t153,[],[],22,6,0⟩
def S2:Shape:=⟨vZ,sk,t153,[],[],22,6,0⟩
noncomputable def Ja(X:Type)(n:Nat):bm X:=dp 7 22 6 0 ajQ [(0,S1)] [S2] n fun m ks a b c d e f g h i j k l o p q r s t u v w x y z A B C D E G H I J K L M N O P Q R S T U V=>F.za.cm n (fun W Y Z a0 b0=>xe S1 ks 0 W Y c d e f g h i Z a0 b0 o p q r s t u v w x y z A B C D E G H I J K L M N O P Q R S T U V) (fun W Y Z a0 b0 c0=>xr S2 ks W Y Z c d e f g h i a0 b0 c0 o p q r s t u v w x y z A B C D E G H I J K L M N O P Q R S T U V) m a b i j k l
noncomputable def Jb(X:Type)(n:Nat):ar X:=aF 7 22 6 0 SY [Eo] [] [] fun ks a b c d e f g h i j k l o p q r s t u v w x y z A B C D E G H I J K L M N O P Q R S T U V W=>F.za.aa n (fun Y Z=>xn Eo ks d e f g h i j k Y Z p q r s t u v w x y z A B C D E G H I J K L M N O P Q R S T U V W) a b c l o
def ajR:Shape:=⟨[(1,(.const (.ref 21 0)))],sk,t153,[],[],22,6,0⟩
def S3:Shape:=⟨[(2,V8)],wa,t153,[],[],21,6,0⟩
noncomputable def Jc(X:Type)(n:Nat):ar X:=aF 8 21 6 0 ajR [] [] [S3] fun ks a b c d e f g h i j k l o p q r s t u v w x y z A B C D E G H I J K L M N O P Q R S T=>F.za.cp n (fun U V W Y=>xr S3 ks U a b c d e f g V W Y k l o p q r s t u v w x y z A B C D E G H I J K L M N O P Q R S T) g h i j
def ajS:Shape:=⟨iW,D4,t153,[],[],22,6,0⟩
def S4:Shape:=⟨[],D4,t153,[],[],22,6,0⟩
noncomputable def Jd(X:Type)(n:Nat):ar X:=aF 7 22 6 0 ajS [S4] [] [] fun ks a b c d e f g h i j k l o p q r s t u v w x y z A B C D E G H I J K L M N O P Q R S T U V W Y=>F.za.aa n (fun Z a0=>xn S4 ks d e f g h i j k Z a0 p q r s t u v w x y z A B C D E G H I J K L M N O P Q R S T U V W Y) a b c l o
def ajT:Shape:=⟨qV,D4,t153,[],[],22,6,0⟩
def S5:Shape:=⟨[(4,V7)],D4,t153,[],[],22,6,0⟩
noncomputable def Je(X:Type)(n:Nat):ar X:=aF 8 22 6 0 ajT [] [] [S5] fun ks a b c d e f g h i j k l o p q r s t u v w x y z A B C D E G H I J K L M N O P Q R S T U V=>F.za.ca n (fun W Y Z a0=>xr S5 ks W b c d e f g h Y Z a0 l o p q r s t u v w x y z A B C D E G H I J K L M N O P Q R S T U V) a h i j k
def S6:Shape:=⟨iW,D5,t153,[],[],23,6,0⟩
def Ep:Shape:=⟨[],D5,t153,[],[],23,6,0⟩
noncomputable def Jf(X:Type)(n:Nat):ar X:=aF 7 23 6 0 S6 [Ep] [] [] fun ks a b c d e f g h i j k l o p q r s t u v w x y z A B C D E G H I J K L M N O P Q R S T U V W Y Z a0=>F.za.aa n (fun b0 c0=>xn Ep ks d e f g h i j k b0 c0 p q r s t u v w x y z A B C D E G H I J K L M N O P Q R S T U V W Y Z a0) a b c l o
def ajU:Shape:=⟨[(0,v46),(1,V0),(2,.str),(3,(.const (.fn 240 [] [(.ref 21 0)])))],D5,t153,[],[],23,6,0⟩
def S7:Shape:=⟨D1,D5,t153,[],[],23,6,0⟩
noncomputable def Jg(X:Type)(n:Nat):ar X:=aF 8 23 6 0 ajU [] [] [S7] fun ks a b c d e f g h i j k l o p q r s t u v w x y z A B C D E G H I J K L M N O P Q R S T U V W Y Z=>F.za.ji n (fun a0 b0 c0=>xr S7 ks a0 c d e f g h i j b0 c0 o p q r s t u v w x y z A B C D E G H I J K L M N O P Q R S T U V W Y Z) a b k l Q
noncomputable def Jh(X:Type)(n:Nat):ar X:=aF 8 23 6 0 S6 [Ep] [] [] fun ks a b c d e f g h i j k l o p q r s t u v w x y z A B C D E G H I J K L M N O P Q R S T U V W Y Z a0=>F.za.aa n (fun b0 c0=>xn Ep ks d e f g h i j k b0 c0 p q r s t u v w x y z A B C D E G H I J K L M N O P Q R S T U V W Y Z a0) a b c l o
def ajV:Shape:=⟨N7,wa,t153,[],[],21,6,0⟩
def Er:Shape:=⟨D3,wa,t153,[],[],21,6,0⟩
noncomputable def Ji(X:Type)(n:Nat):ar X:=aF 9 21 6 0 ajV [] [] [Er] fun ks a b c d e f g h i j k l o p q r s t u v w x y z A B C D E G H I J K L M N O P Q R S T U V W=>F.za.dX n (fun Y Z a0 b0 c0 d0 e0=>xr Er ks Y d e f g h i j Z a0 b0 p c0 d0 s t u v w x y z A B C D E G H I J K L M N O P Q R e0 T U V W) a b c j k l o q r S
def ajW:Shape:=⟨N8,wa,t153,[],[],21,6,0⟩
noncomputable def Jj(X:Type)(n:Nat):ar X:=aF 9 21 6 0 ajW [] [] [Er] fun ks a b c d e f g h i j k l o p q r s t u v w x y z A B C D E G H I J K L M N O P Q R S T U V=>F.za.fZ n (fun W Y Z a0 b0 c0 d0=>xr Er ks W c d e f g h i Y Z a0 o b0 c0 r s t u v w x y z A B C D E G H I J K L M N O P Q d0 S T U V) a b i j k l p q R
noncomputable def Jk(X:Type)(n:Nat):ar X:=aF 9 21 6 0 SX [En] [] [] fun ks a b c d e f g h i j k l o p q r s t u v w x y z A B C D E G H I J K L M N O P Q R S T U V W=>F.za.aa n (fun Y Z=>xn En ks d e f g h i j k Y Z p q r s t u v w x y z A B C D E G H I J K L M N O P Q R S T U V W) a b c l o
def ajX:Shape:=⟨[(0,v46),(1,V0),(2,.str),(3,(.const (.fn 205 [] [(.ref 19 0)])))],wa,t153,[],[],21,6,0⟩
def S8:Shape:=⟨D1,wa,t153,[],[],21,6,0⟩
noncomputable def Jl(X:Type)(n:Nat):ar X:=aF 9 21 6 0 ajX [] [] [S8] fun ks a b c d e f g h i j k l o p q r s t u v w x y z A B C D E G H I J K L M N O P Q R S T U V=>F.za.hU n (fun W Y Z=>xr S8 ks W c d e f g h i j Y Z o p q r s t u v w x y z A B C D E G H I J K L M N O P Q R S T U V) a b k l N
def ajY:Shape:=⟨N9,x_,t153,[],[],17,6,0⟩
def S9:Shape:=⟨N_,x_,t153,[],[],17,6,0⟩
noncomputable def Jm(X:Type)(n:Nat):ar X:=aF 10 17 6 0 ajY [] [] [S9] fun ks a b c d e f g h i j k l o p q r s t u v w x y z A B C D E G H I J K L M N=>F.za.gL n (fun O P Q R S T U=>xr S9 ks O b c d e f g h P Q R l S T q r s t u v w x y z A B C D E G H I U K L M N) a h i j k o p J
def ajZ:Shape:=⟨iW,x_,t153,[],[],17,6,0⟩
def S_:Shape:=⟨[],x_,t153,[],[],17,6,0⟩
noncomputable def Jn(X:Type)(n:Nat):ar X:=aF 11 17 6 0 ajZ [S_] [] [] fun ks a b c d e f g h i j k l o p q r s t u v w x y z A B C D E G H I J K L M N O P=>F.za.aa n (fun Q R=>xn S_ ks d e f g h i j k Q R p q r s t u v w x y z A B C D E G H I J K L M N O P) a b c l o
def aj0:Shape:=⟨[(0,v46),(1,V0),(2,(.const (.fn 152 [] [(.ref 12 0),(.ref 13 0),(.ref 14 0)]))),(3,(.const (.fn 154 [] [(.ref 15 0),(.ref 16 0)])))],x_,t153,[],[],17,6,0⟩
def S':Shape:=⟨D3,x_,t153,[],[],17,6,0⟩
noncomputable def Jo(X:Type)(n:Nat):ar X:=aF 12 17 6 0 aj0 [] [] [S'] fun ks a b c d e f g h i j k l o p q r s t u v w x y z A B C D E G H I J K L M N=>F.za.gM n (fun O P Q R S T U=>xr S' ks O b c d e f g h P Q R l S T q r s t u v w x y z A B C D E G H I U K L M N) a h i j k o p E G H J
def aj1:Shape:=⟨[(5,V0),(6,v182),(7,v183),(8,H0),(9,Oa),(10,(.const (.ref 16 0)))],x_,t153,[],[],17,6,0⟩
def Ta:Shape:=⟨H2,ya,t153,[],[],12,6,0⟩
noncomputable def Jp(X:Type)(n:Nat):ar X:=aF 13 12 6 0 aj1 [] [] [Ta] fun ks a b c d e f g h i j k l o p q r s t u v w x y z A B C D E G H I J K L M N=>F.za.gN n (fun O P Q R S T U=>xr Ta ks O b c d e f g h P Q R l S T q r s t u v w x y z A B C D I U K L M N) a h i j k o p E G H J
def aj2:Shape:=⟨iW,ya,t153,[],[],12,6,0⟩
def Tb:Shape:=⟨[],ya,t153,[],[],12,6,0⟩
noncomputable def Jq(X:Type)(n:Nat):ar X:=aF 13 12 6 0 aj2 [Tb] [] [] fun ks a b c d e f g h i j k l o p q r s t u v w x y z A B C D E G H I J K L M=>F.za.aa n (fun N O=>xn Tb ks d e f g h i j k N O p q r s t u v w x y z A B C D E G H I J K L M) a b c l o
def aj3:Shape:=⟨[(0,v77),(3,qW),(4,pW),(5,si),(8,V0),(9,V0),(10,v_),(87,.bool)],ya,t153,[],[],12,2,0⟩
def B9:Shape:=⟨[(0,v77),(3,qW),(4,pW),(5,si),(8,V0),(10,v_)],ya,t153,[],[],12,2,0⟩
noncomputable def Jr(X:Type)(n:Nat):ar X:=aF 14 8 2 0 aj3 [B9] [] [] fun ks a b c d e f g h i j k l o p q r s t u v w x y z A B C D E G H I J K L M=>F.za.kN n (fun N O=>xn B9 ks a d e f g h i j k N O p q r s t u v w x y z A B C D E G H I J K L M) b c l o
def aj4:Shape:=⟨[(0,v77),(3,qW),(4,pW),(5,si),(8,V0),(9,V0),(10,v_),(11,V0)],ya,t153,[],[],12,2,0⟩
noncomputable def Js(X:Type)(n:Nat):ar X:=aF 14 8 2 0 aj4 [B9] [] [] fun ks a b c d e f g h i j k l o p q r s t u v w x y z A B C D E G H I J K L M=>F.za.mS n (fun N O=>xn B9 ks a d e f g h i j k N O p q r s t u v w x y z A B C D E G H I J K L M) b c l o C E G
def oO:Shape:=⟨[(0,v77),(3,qW),(4,pW),(5,si),(8,V0)],mz,t153,[],[],11,2,0⟩
noncomputable def Jt(X:Type)(n:Nat):ar X:=aF 14 8 2 0 B9 [oO] [] [] fun ks a b c d e f g h i j k l o p q r s t u v w x y z A B C D E G H I J K=>F.za.pw n (fun L M=>xn oO ks a b c d e f g h i j k l o p q r s t u v w x y z L B E G H I J M) A C D K
def Tc:Shape:=⟨[(0,v77),(3,qW),(4,pW),(5,si),(8,V0),(9,V0),(10,v_)],ya,t153,[],[],12,2,0⟩
noncomputable def Ju(X:Type)(n:Nat):ar X:=aF 14 8 2 0 Tc [oO] [] [] fun ks a b c d e f g h i j k l o p q r s t u v w x y z A B C D E G H I J K L=>F.za.px n (fun M N O P=>xn oO ks a c d e f g h i j M N o p q r s t u v w x y z A O C G H I J K P) b k l B D E L
noncomputable def Jv(X:Type)(n:Nat):ar X:=aF 14 8 2 0 Tc [oO] [] [] fun ks a b c d e f g h i j k l o p q r s t u v w x y z A B C D _ E G H I J K=>F.za.py n (fun L M N O P Q R S=>xn oO ks a c d e f g h i L M N o O P r s t u v w x y z A Q C E R H I J S) b i j k l p q B D G K
def aj5:Shape:=⟨[(0,v77),(3,qW),(4,pW),(5,si),(8,V0),(9,V0)],mz,t153,[],[],11,2,0⟩
noncomputable def Jw(X:Type)(n:Nat):ar X:=aF 14 8 2 0 aj5 [oO] [] [] fun ks a b c d e f g h i j k l o p q r s t u v w x y z A B C D E G H I J=>F.za.pz n (fun K L M N O P Q R=>xn oO ks a c d e f g h i K L M o N O r s t u v w x y z A P C D Q G H I R) b i j k l p q B E J
noncomputable def Jx(X:Type)(n:Nat):ar X:=aF 14 8 2 0 oO [oO] [] [] fun ks a b c d e f g h i j k l o p q r s t u v w x y z A B C D E G H I=>F.za.pA n (fun J K L M N O P Q R=>xn oO ks J b c d e f g h K L M l N O q r s t u v w x y z P B C Q E G H R) a h i j k o p A D I
def zI:Shape:=⟨[(3,qW),(4,pW),(5,si)],mz,t153,[],[],11,2,0⟩
noncomputable def Jy(X:Type)(n:Nat):bm X:=dp 14 8 2 0 oO [(2,zI)] [] n fun m ks a b c d e f g h i j k l o p q r s t u v w x y z A B C D E G H I=>F.za.gj n (fun J K L M N O P Q=>xe zI ks 2 b c d e f g h J K L l M N q r s t u v w x y z O B C P E G H Q) m a h i j k o p A D I
noncomputable def Jz(X:Type)(n:Nat):ar X:=aF 14 8 2 0 oO [zI] [] [] fun ks a b c d e f g h i j k l o p q r s t u v w x y z A B C D E G H I=>F.za.pB n (fun J K L M N O P Q=>xn zI ks b c d e f g h J K L l M N q r s t u v w x y z O B C P E G H Q) a h i j k o p A D I
def lk:Shape:=⟨[(4,pW)],Od,t248,[],[],10,2,0⟩
noncomputable def JA(X:Type)(n:Nat):ar X:=aF 14 8 2 0 zI [] [] [lk] fun ks a b c d e f g h i j k l o _ _ _ _ _ _ p q r s t u v w _ _ x y=>F.za.pC n (fun z A B C D E G H=>xr lk ks a b c d e f g h i j k l o z A B C D E v w G H) i j p q r s t u x y
noncomputable def JB(X:Type)(n:Nat):ar X:=aF 14 8 2 0 zI [] [] [lk] fun ks a b c d e f g h i j k l o _ _ _ _ _ _ p q r s t _ u v _ _ w x=>F.za.pD n (fun y z A B C D E G H I J=>xr lk ks a b c d e f g y z A k l o B C D E G H u v I J) g h i j p q r s t w x
noncomputable def JC(X:Type)(n:Nat):ar X:=aF 14 8 2 0 wc [] [] [lk] fun ks a b c d e f g h i j k l o _ _ _ _ _ _ p q r s t _ u v _ _ w x=>F.za.pE n (fun y z A B C D E G H I J K L M=>xr lk ks a b c d e f g y z A k B C D E G H I J u K L M) g h i j l o p q r s t v w x
def aj6:Shape:=⟨[(0,v77),(3,qW),(4,pW),(5,si),(7,V0)],mz,t153,[],[],11,2,0⟩
noncomputable def JD(X:Type)(n:Nat):ar X:=aF 14 8 2 0 aj6 [] [] [lk] fun ks a b c d e f g h i j k l o p _ _ _ _ _ _ q r s _ t _ u v _ _ w x=>F.za.kO n (fun y z A B C D E G H I J K L M=>xr lk ks b c d e f g h y z A l B C D E G H I J u K L M) a h i j k o p q r s t v w x
noncomputable def JE(X:Type)(n:Nat):ar X:=aF 14 8 2 0 wc [] [] [lk] fun ks a b c d e f g h i j k l o _ _ _ _ _ _ p q r _ s _ t u _ _ v w=>F.za.pF n (fun x y z A B C D E G H I J K L=>xr lk ks a b c d e f g x y z k A B C D E G H I t J K L) g h i j l o p q r s u v w
noncomputable def JF(X:Type)(n:Nat):ar X:=aF 14 8 2 0 wc [] [] [lk] fun ks a b c d e f g h i j k l o _ _ _ _ _ _ p q r s t u v w _ _ x y=>F.za.qS n (fun z A B C D E G H I J K L M N=>xr lk ks a b c d e f g z A B k C D E G H I J K v L M N) g h i j l o p q r s t u w x y
noncomputable def JG(X:Type)(n:Nat):ar X:=aF 14 8 2 0 wc [] [] [lk] fun ks a b c d e f g h i j k l o _ _ _ _ _ _ p _ q r s t u v _ _ w x=>F.za.qT n (fun y z A B C D E G H I J K L M=>xr lk ks a b c d e f g y z A k B C D E G H I J u K L M) g h i j l o p q r s t v w x
def Td:Shape:=⟨[(0,v77),(3,qW),(4,pW)],Od,t248,[],[],10,2,0⟩
noncomputable def JH(X:Type)(n:Nat):ar X:=aF 14 8 2 0 Td [] [] [lk] fun ks a b c d e f g h i j k l o _ _ _ _ _ _ p q _ _=>F.za.qU n (fun r s t u v w x y z A B C D E=>xr lk ks a b c d e f g r s t k u v w x y z A B p C D E) g h i j l o q
noncomputable def JI(X:Type)(n:Nat):ar X:=aF 14 8 2 0 Td [] [] [lk] fun ks a b c d e f g h i j k l o _ _ _ _ _ _ p q _ _=>F.za.nO n (fun r s t u v w x y z A B C D E=>xr lk ks a b c d e f g r s t k u v w x y z A B p C D E) g h i j l o q
def aj7:Shape:=⟨[(0,v46),(1,jN),(4,v77),(14,V8),(15,V8)],B5,t11,[],[],8,0,0⟩
def Te:Shape:=⟨rZ,B5,t11,[],[],8,0,0⟩
def Tf:Shape:=⟨[],B5,t11,[],[],8,0,0⟩
noncomputable def JJ(X:Type)(n:Nat):bm X:=dp 15 6 0 0 aj7 [(0,Te),(154000005,Tf)] [] n fun m ks a b c d e f g h i j k l o p q r s=>F.za.d_ n (fun t u v w x y z A=>xe Te ks 0 c d t f g h i u v w o x y z A) (fun t u v w x y z A=>xe Tf ks 154000005 c d t f g h i u v w o x y z A) m a b e i j k l o p q r s
def aj8:Shape:=⟨iW,B5,t11,[],[],8,2,0⟩
def Tg:Shape:=⟨[],B5,t11,[],[],8,2,0⟩
noncomputable def JK(X:Type)(n:Nat):ar X:=aF 14 8 2 0 aj8 [Tg] [] [] fun ks a b c d e f g h i j k l o p q r s t=>F.za.aa n (fun u v=>xn Tg ks d e f g h i j k u v p q r s t) a b c l o
def aj9:Shape:=⟨[(0,v46),(1,jN),(3,V8)],B4,[true],[],[],6,0,0⟩
def Es:Shape:=⟨[],B4,[true],[],[],6,0,0⟩
noncomputable def JL(X:Type)(n:Nat):ar X:=aF 15 6 0 0 aj9 [Es] [(154000005,Es)] [] fun ks a b c d e f g h i j k l o=>F.za.eR n (fun p q r s t=>xe Es ks 154000005 b c p e f g h q r s l t) (fun p q r s t=>xn Es ks b c p e f g h q r s l t) a d h i j k l o
noncomputable def ba(X:Type)(n:Nat):Cx X:=bc tab.get [(22,Tryz.f22),(35,Tryz.f35),(43,Tryz.f43),(44,Tryz.f44),(45,Tryz.f45),(47,Tryz.f47),(48,Tryz.f48),(49,Tryz.f49),(82,Tryz.f82),(83,Tryz.f83),(84,Tryz.f84),(85,Tryz.f85),(86,Tryz.f86),(87,Tryz.f87),(88,Tryz.f88),(89,Tryz.f89),(90,Tryz.f90),(92,Tryz.f92),(93,Tryz.f93),(141,Tryz.f141),(150,Tryz.f150),(151,Tryz.f151),(152,Tryz.f152),(153,Tryz.f153),(154,Tryz.f154),(155,Tryz.f155),(156,Tryz.f156),(157,Tryz.f157),(203,Tryz.f203),(204,Tryz.f204),(205,Tryz.f205),(240,Tryz.f240)] [o91 n,o94 n,Ea n,aiV n,aiW n,OQ n,aiZ n] [(43,6,[JJ X n]),(47,7,[IY X n]),(47,15,[Jy X n]),(82,3,[Q4 X n,Re X n,Rs X n,Sf X n,Sy X n,IP X n,I5 X n,Ja X n])] [] [(43,7,[(0,3),(3,3)]),(44,3,[(0,3),(3,3),(5,5)]),(47,9,[(1,3),(3,3)]),(83,2,[(2,2),(1000,0),(1000,1),(1000,3),(1000,2),(1000,4),(1000,5),(1000,6)]),(153,2,[(2,1),(1,1),(1000,0),(1000,2),(1000,1),(1000,3)]),(153,13,[(2,1),(1,1),(1000,0),(1000,2),(1000,1),(1000,3),(1000,4)])] [] [(43,3,[JL X n]),(44,1,[Q6 X n,Rh X n,Rv X n,Si X n,SB X n,IU X n,I7 X n,Jc X n]),(45,1,[QZ X n,Q5 X n,Q7 X n,Q8 X n,Q9 X n,Rf X n,Rj X n,Rl X n,Rt X n,Rx X n,RB X n,RE X n,RH X n,RO X n,RU X n,R0 X n,R_ X n,Sg X n,Sk X n,Sq X n,Sz X n,IK X n,IQ X n,IV X n,I1 X n,I2 X n,I6 X n,I8 X n,I9 X n,Jb X n,Jd X n,Jf X n,Jh X n,Jk X n,Jn X n,Jq X n,JK X n]),(47,1,[JI X n]),(47,3,[JH X n]),(47,5,[JG X n]),(47,6,[JF X n]),(47,7,[IZ X n]),(47,9,[IX X n]),(47,10,[JE X n]),(47,13,[JD X n]),(47,14,[JC X n]),(47,15,[Jz X n]),(47,17,[Jx X n]),(47,18,[Jw X n]),(47,19,[Jv X n]),(47,20,[Ju X n]),(47,21,[Js X n]),(47,22,[Jr X n]),(47,23,[Jt X n]),(47,24,[JB X n]),(47,25,[JA X n]),(84,1,[Q3 X n,Ra X n,Rp X n,RZ X n,Sc X n,Sv X n,IM X n,I4 X n,I' X n]),(88,1,[RS X n,I0 X n,Jp X n]),(89,1,[R1 X n]),(92,1,[Sn X n]),(93,1,[IW X n]),(150,1,[Q0 X n,Q_ X n,Rn X n,Rz X n,RX X n,Sa X n,Ss X n,IL X n,I3 X n,I_ X n,Je X n]),(151,1,[RQ X n,Jo X n]),(153,1,[RM X n,Jm X n]),(155,1,[Sm X n]),(203,1,[RG X n,Jj X n]),(203,8,[RF X n,Ji X n]),(204,1,[RD X n,RJ X n,Jg X n,Jl X n])] [] [(46,.Br 153),(50,.vM 153)] none []
theorem aj_(X:Type)(n:Nat):CO (ba X n) 45 Tryz.f45 0 (QZ X n):=fun _ _=>by kernel_rfl
theorem aj'(X:Type)(n:Nat):CO (ba X n) 150 Tryz.f150 0 (Q0 X n):=fun _ _=>by kernel_rfl
theorem aka(X:Type)(n:Nat):CO (ba X n) 84 Tryz.f84 0 (Q3 X n):=fun _ _=>by kernel_rfl
theorem akb(X:Type)(n:Nat):CO (ba X n) 45 Tryz.f45 0 (Q5 X n):=fun _ _=>by kernel_rfl
theorem akc(X:Type)(n:Nat):CO (ba X n) 44 Tryz.f44 0 (Q6 X n):=fun _ _=>by kernel_rfl
theorem akd(X:Type)(n:Nat):CO (ba X n) 45 Tryz.f45 0 (Q7 X n):=fun _ _=>by kernel_rfl
theorem ake(X:Type)(n:Nat):CO (ba X n) 45 Tryz.f45 0 (Q8 X n):=fun _ _=>by kernel_rfl
theorem akf(X:Type)(n:Nat):CO (ba X n) 45 Tryz.f45 0 (Q9 X n):=fun _ _=>by kernel_rfl
theorem akg(X:Type)(n:Nat):CO (ba X n) 150 Tryz.f150 0 (Q_ X n):=fun _ _=>by kernel_rfl
theorem akh(X:Type)(n:Nat):CO (ba X n) 84 Tryz.f84 0 (Ra X n):=fun _ _=>by kernel_rfl
theorem aki(X:Type)(n:Nat):CO (ba X n) 45 Tryz.f45 0 (Rf X n):=fun _ _=>by kernel_rfl
theorem akj(X:Type)(n:Nat):CO (ba X n) 44 Tryz.f44 0 (Rh X n):=fun _ _=>by kernel_rfl
theorem akk(X:Type)(n:Nat):CO (ba X n) 45 Tryz.f45 0 (Rj X n):=fun _ _=>by kernel_rfl
theorem akl(X:Type)(n:Nat):CO (ba X n) 45 Tryz.f45 0 (Rl X n):=fun _ _=>by kernel_rfl
theorem akm(X:Type)(n:Nat):CO (ba X n) 150 Tryz.f150 0 (Rn X n):=fun _ _=>by kernel_rfl
theorem akn(X:Type)(n:Nat):CO (ba X n) 84 Tryz.f84 0 (Rp X n):=fun _ _=>by kernel_rfl
theorem ako(X:Type)(n:Nat):CO (ba X n) 45 Tryz.f45 0 (Rt X n):=fun _ _=>by kernel_rfl
theorem akp(X:Type)(n:Nat):CO (ba X n) 44 Tryz.f44 0 (Rv X n):=fun _ _=>by kernel_rfl
theorem akq(X:Type)(n:Nat):CO (ba X n) 45 Tryz.f45 0 (Rx X n):=fun _ _=>by kernel_rfl
theorem akr(X:Type)(n:Nat):CO (ba X n) 150 Tryz.f150 0 (Rz X n):=fun _ _=>by kernel_rfl
theorem aks(X:Type)(n:Nat):CO (ba X n) 45 Tryz.f45 0 (RB X n):=fun _ _=>by kernel_rfl
theorem akt(X:Type)(n:Nat):CO (ba X n) 204 Tryz.f204 0 (RD X n):=fun _ _=>by kernel_rfl
theorem aku(X:Type)(n:Nat):CO (ba X n) 45 Tryz.f45 0 (RE X n):=fun _ _=>by kernel_rfl
theorem akv(X:Type)(n:Nat):CO (ba X n) 203 Tryz.f203 7 (RF X n):=fun _ _=>by kernel_rfl
theorem akw(X:Type)(n:Nat):CO (ba X n) 203 Tryz.f203 0 (RG X n):=fun _ _=>by kernel_rfl
theorem akx(X:Type)(n:Nat):CO (ba X n) 45 Tryz.f45 0 (RH X n):=fun _ _=>by kernel_rfl
theorem aky(X:Type)(n:Nat):CO (ba X n) 204 Tryz.f204 0 (RJ X n):=fun _ _=>by kernel_rfl
theorem akz(X:Type)(n:Nat):CO (ba X n) 153 Tryz.f153 0 (RM X n):=fun _ _=>by kernel_rfl
theorem akA(X:Type)(n:Nat):CO (ba X n) 45 Tryz.f45 0 (RO X n):=fun _ _=>by kernel_rfl
theorem akB(X:Type)(n:Nat):CO (ba X n) 151 Tryz.f151 0 (RQ X n):=fun _ _=>by kernel_rfl
theorem akC(X:Type)(n:Nat):CO (ba X n) 88 Tryz.f88 0 (RS X n):=fun _ _=>by kernel_rfl
theorem akD(X:Type)(n:Nat):CO (ba X n) 45 Tryz.f45 0 (RU X n):=fun _ _=>by kernel_rfl
theorem akE(X:Type)(n:Nat):CO (ba X n) 150 Tryz.f150 0 (RX X n):=fun _ _=>by kernel_rfl
theorem akF(X:Type)(n:Nat):CO (ba X n) 84 Tryz.f84 0 (RZ X n):=fun _ _=>by kernel_rfl
theorem akG(X:Type)(n:Nat):CO (ba X n) 45 Tryz.f45 0 (R0 X n):=fun _ _=>by kernel_rfl
theorem akH(X:Type)(n:Nat):CO (ba X n) 89 Tryz.f89 0 (R1 X n):=fun _ _=>by kernel_rfl
theorem akI(X:Type)(n:Nat):CO (ba X n) 45 Tryz.f45 0 (R_ X n):=fun _ _=>by kernel_rfl
theorem akJ(X:Type)(n:Nat):CO (ba X n) 150 Tryz.f150 0 (Sa X n):=fun _ _=>by kernel_rfl
theorem akK(X:Type)(n:Nat):CO (ba X n) 84 Tryz.f84 0 (Sc X n):=fun _ _=>by kernel_rfl
theorem akL(X:Type)(n:Nat):CO (ba X n) 45 Tryz.f45 0 (Sg X n):=fun _ _=>by kernel_rfl
theorem akM(X:Type)(n:Nat):CO (ba X n) 44 Tryz.f44 0 (Si X n):=fun _ _=>by kernel_rfl
theorem akN(X:Type)(n:Nat):CO (ba X n) 45 Tryz.f45 0 (Sk X n):=fun _ _=>by kernel_rfl
theorem akO(X:Type)(n:Nat):CO (ba X n) 155 Tryz.f155 0 (Sm X n):=fun _ _=>by kernel_rfl
theorem akP(X:Type)(n:Nat):CO (ba X n) 92 Tryz.f92 0 (Sn X n):=fun _ _=>by kernel_rfl
theorem akQ(X:Type)(n:Nat):CO (ba X n) 45 Tryz.f45 0 (Sq X n):=fun _ _=>by kernel_rfl
theorem akR(X:Type)(n:Nat):CO (ba X n) 150 Tryz.f150 0 (Ss X n):=fun _ _=>by kernel_rfl
theorem akS(X:Type)(n:Nat):CO (ba X n) 84 Tryz.f84 0 (Sv X n):=fun _ _=>by kernel_rfl
theorem akT(X:Type)(n:Nat):CO (ba X n) 45 Tryz.f45 0 (Sz X n):=fun _ _=>by kernel_rfl
theorem akU(X:Type)(n:Nat):CO (ba X n) 44 Tryz.f44 0 (SB X n):=fun _ _=>by kernel_rfl
theorem X9(X:Type)(n:Nat):CO (ba X n) 45 Tryz.f45 0 (IK X n):=fun _ _=>by kernel_rfl
theorem X_(X:Type)(n:Nat):CO (ba X n) 150 Tryz.f150 0 (IL X n):=fun _ _=>by kernel_rfl
theorem X'(X:Type)(n:Nat):CO (ba X n) 84 Tryz.f84 0 (IM X n):=fun _ _=>by kernel_rfl
theorem Ya(X:Type)(n:Nat):CO (ba X n) 45 Tryz.f45 0 (IQ X n):=fun _ _=>by kernel_rfl
theorem Yb(X:Type)(n:Nat):CO (ba X n) 44 Tryz.f44 0 (IU X n):=fun _ _=>by kernel_rfl
theorem Yc(X:Type)(n:Nat):CO (ba X n) 45 Tryz.f45 0 (IV X n):=fun _ _=>by kernel_rfl
theorem Yd(X:Type)(n:Nat):CO (ba X n) 93 Tryz.f93 0 (IW X n):=fun _ _=>by kernel_rfl
theorem Ye(X:Type)(n:Nat):CO (ba X n) 47 Tryz.f47 9 (IX X n):=fun _ _=>by kernel_rfl
theorem Yf(X:Type)(n:Nat):CO (ba X n) 47 Tryz.f47 8 (IZ X n):=fun _ _=>by kernel_rfl
theorem Yg(X:Type)(n:Nat):CO (ba X n) 88 Tryz.f88 0 (I0 X n):=fun _ _=>by kernel_rfl
theorem Yh(X:Type)(n:Nat):CO (ba X n) 45 Tryz.f45 0 (I1 X n):=fun _ _=>by kernel_rfl
theorem Yi(X:Type)(n:Nat):CO (ba X n) 45 Tryz.f45 0 (I2 X n):=fun _ _=>by kernel_rfl
theorem Yj(X:Type)(n:Nat):CO (ba X n) 150 Tryz.f150 0 (I3 X n):=fun _ _=>by kernel_rfl
theorem Yk(X:Type)(n:Nat):CO (ba X n) 84 Tryz.f84 0 (I4 X n):=fun _ _=>by kernel_rfl
theorem Yl(X:Type)(n:Nat):CO (ba X n) 45 Tryz.f45 0 (I6 X n):=fun _ _=>by kernel_rfl
theorem Ym(X:Type)(n:Nat):CO (ba X n) 44 Tryz.f44 0 (I7 X n):=fun _ _=>by kernel_rfl
theorem Yn(X:Type)(n:Nat):CO (ba X n) 45 Tryz.f45 0 (I8 X n):=fun _ _=>by kernel_rfl
theorem Yo(X:Type)(n:Nat):CO (ba X n) 45 Tryz.f45 0 (I9 X n):=fun _ _=>by kernel_rfl
theorem Yp(X:Type)(n:Nat):CO (ba X n) 150 Tryz.f150 0 (I_ X n):=fun _ _=>by kernel_rfl
theorem Yq(X:Type)(n:Nat):CO (ba X n) 84 Tryz.f84 0 (I' X n):=fun _ _=>by kernel_rfl
theorem Yr(X:Type)(n:Nat):CO (ba X n) 45 Tryz.f45 0 (Jb X n):=fun _ _=>by kernel_rfl
theorem Yt(X:Type)(n:Nat):CO (ba X n) 44 Tryz.f44 0 (Jc X n):=fun _ _=>by kernel_rfl
theorem Yu(X:Type)(n:Nat):CO (ba X n) 45 Tryz.f45 0 (Jd X n):=fun _ _=>by kernel_rfl
theorem Yv(X:Type)(n:Nat):CO (ba X n) 150 Tryz.f150 0 (Je X n):=fun _ _=>by kernel_rfl
theorem Yw(X:Type)(n:Nat):CO (ba X n) 45 Tryz.f45 0 (Jf X n):=fun _ _=>by kernel_rfl
theorem Yx(X:Type)(n:Nat):CO (ba X n) 204 Tryz.f204 0 (Jg X n):=fun _ _=>by kernel_rfl
theorem Yy(X:Type)(n:Nat):CO (ba X n) 45 Tryz.f45 0 (Jh X n):=fun _ _=>by kernel_rfl
theorem Yz(X:Type)(n:Nat):CO (ba X n) 203 Tryz.f203 7 (Ji X n):=fun _ _=>by kernel_rfl
theorem YA(X:Type)(n:Nat):CO (ba X n) 203 Tryz.f203 0 (Jj X n):=fun _ _=>by kernel_rfl
theorem YB(X:Type)(n:Nat):CO (ba X n) 45 Tryz.f45 0 (Jk X n):=fun _ _=>by kernel_rfl
theorem YC(X:Type)(n:Nat):CO (ba X n) 204 Tryz.f204 0 (Jl X n):=fun _ _=>by kernel_rfl
theorem YD(X:Type)(n:Nat):CO (ba X n) 153 Tryz.f153 0 (Jm X n):=fun _ _=>by kernel_rfl
theorem YE(X:Type)(n:Nat):CO (ba X n) 45 Tryz.f45 0 (Jn X n):=fun _ _=>by kernel_rfl
theorem YF(X:Type)(n:Nat):CO (ba X n) 151 Tryz.f151 0 (Jo X n):=fun _ _=>by kernel_rfl
theorem YG(X:Type)(n:Nat):CO (ba X n) 88 Tryz.f88 0 (Jp X n):=fun _ _=>by kernel_rfl
theorem YH(X:Type)(n:Nat):CO (ba X n) 45 Tryz.f45 0 (Jq X n):=fun _ _=>by kernel_rfl
theorem YI(X:Type)(n:Nat):CO (ba X n) 47 Tryz.f47 26 (Jr X n):=fun _ _=>by kernel_rfl
theorem YJ(X:Type)(n:Nat):CO (ba X n) 47 Tryz.f47 25 (Js X n):=fun _ _=>by kernel_rfl
theorem YK(X:Type)(n:Nat):CO (ba X n) 47 Tryz.f47 24 (Jt X n):=fun _ _=>by kernel_rfl
theorem YL(X:Type)(n:Nat):CO (ba X n) 47 Tryz.f47 23 (Ju X n):=fun _ _=>by kernel_rfl
theorem YM(X:Type)(n:Nat):CO (ba X n) 47 Tryz.f47 22 (Jv X n):=fun _ _=>by kernel_rfl
theorem YN(X:Type)(n:Nat):CO (ba X n) 47 Tryz.f47 21 (Jw X n):=fun _ _=>by kernel_rfl
theorem YO(X:Type)(n:Nat):CO (ba X n) 47 Tryz.f47 18 (Jx X n):=fun _ _=>by kernel_rfl
theorem YP(X:Type)(n:Nat):CO (ba X n) 47 Tryz.f47 17 (Jz X n):=fun _ _=>by kernel_rfl
theorem YQ(X:Type)(n:Nat):CO (ba X n) 47 Tryz.f47 27 (JA X n):=fun _ _=>by kernel_rfl
theorem YR(X:Type)(n:Nat):CO (ba X n) 47 Tryz.f47 16 (JB X n):=fun _ _=>by kernel_rfl
theorem YS(X:Type)(n:Nat):CO (ba X n) 47 Tryz.f47 15 (JC X n):=fun _ _=>by kernel_rfl
theorem YT(X:Type)(n:Nat):CO (ba X n) 47 Tryz.f47 13 (JD X n):=fun _ _=>by kernel_rfl
theorem YU(X:Type)(n:Nat):CO (ba X n) 47 Tryz.f47 7 (JE X n):=fun _ _=>by kernel_rfl
theorem YV(X:Type)(n:Nat):CO (ba X n) 47 Tryz.f47 6 (JF X n):=fun _ _=>by kernel_rfl
theorem YW(X:Type)(n:Nat):CO (ba X n) 47 Tryz.f47 5 (JG X n):=fun _ _=>by kernel_rfl
theorem YX(X:Type)(n:Nat):CO (ba X n) 47 Tryz.f47 1 (JH X n):=fun _ _=>by kernel_rfl
theorem YY(X:Type)(n:Nat):CO (ba X n) 47 Tryz.f47 0 (JI X n):=fun _ _=>by kernel_rfl
theorem YZ(X:Type)(n:Nat):CO (ba X n) 45 Tryz.f45 0 (JK X n):=fun _ _=>by kernel_rfl
theorem Y_(X:Type)(n:Nat):CO (ba X n) 43 Tryz.f43 1 (JL X n):=fun _ _=>by kernel_rfl
theorem akV(X:Type)(n:Nat):LO (ba X n) 82 Tryz.f82 0 (Q4 X n):=fb
theorem akW(X:Type)(n:Nat):LO (ba X n) 82 Tryz.f82 0 (Re X n):=fb
theorem akX(X:Type)(n:Nat):LO (ba X n) 82 Tryz.f82 0 (Rs X n):=fb
theorem akY(X:Type)(n:Nat):LO (ba X n) 82 Tryz.f82 0 (Sf X n):=fb
theorem akZ(X:Type)(n:Nat):LO (ba X n) 82 Tryz.f82 0 (Sy X n):=fb
theorem Y'(X:Type)(n:Nat):LO (ba X n) 82 Tryz.f82 0 (IP X n):=fb
theorem Za(X:Type)(n:Nat):LO (ba X n) 47 Tryz.f47 0 (IY X n):=fb
theorem Zb(X:Type)(n:Nat):LO (ba X n) 82 Tryz.f82 0 (I5 X n):=fb
theorem Zc(X:Type)(n:Nat):LO (ba X n) 82 Tryz.f82 0 (Ja X n):=fb
theorem Zd(X:Type)(n:Nat):LO (ba X n) 47 Tryz.f47 1 (Jy X n):=fb
theorem Ze(X:Type)(n:Nat):LO (ba X n) 43 Tryz.f43 0 (JJ X n):=fb
theorem z16(X:Type)(n:Nat):a_ Tryz.prog SW (ba X n):=mx (J (J Tryz.func22 (by decide)) (J (J Tryz.func35 (by decide)) (J (J Tryz.func43 (by decide)) (J (J Tryz.func44 (by decide)) (J (J Tryz.func45 (by decide)) (J (J Tryz.func47 (by decide)) (J (J Tryz.func48 (by decide)) (J (J Tryz.func49 (by decide)) (J (J Tryz.func82 (by decide)) (J (J Tryz.func83 (by decide)) (J (J Tryz.func84 (by decide)) (J (J Tryz.func85 (by decide)) (J (J Tryz.func86 (by decide)) (J (J Tryz.func87 (by decide)) (J (J Tryz.func88 (by decide)) (J (J Tryz.func89 (by decide)) (J (J Tryz.func90 (by decide)) (J (J Tryz.func92 (by decide)) (J (J Tryz.func93 (by decide)) (J (J Tryz.func141 (by decide)) (J (J Tryz.func150 (by decide)) (J (J Tryz.func151 (by decide)) (J (J Tryz.func152 (by decide)) (J (J Tryz.func153 (by decide)) (J (J Tryz.func154 (by decide)) (J (J Tryz.func155 (by decide)) (J (J Tryz.func156 (by decide)) (J (J Tryz.func157 (by decide)) (J (J Tryz.func203 (by decide)) (J (J Tryz.func204 (by decide)) (J (J Tryz.func205 (by decide)) (T1 (J Tryz.func240 (by decide)))))))))))))))))))))))))))))))))) (J (zb (aiU n)) (J (zb (PB n)) (J (zb (A3 n)) (J (zb (X6 n)) (J (zb (II n)) (J (zb (Ij n)) (T1 (zb (X8 n))))))))) (J (bd trivial trivial) (J (bd trivial trivial) (J (pq (J trivial (J (T1 (Y_ X n)) (J trivial (J trivial (J trivial (J trivial (J trivial (J trivial (J trivial (J trivial (J trivial (T1 trivial)))))))))))) (T1 (T1 (Ze X n))) trivial) (J (pq (J (J (akc X n) (J (akj X n) (J (akp X n) (J (akM X n) (J (akU X n) (J (Yb X n) (J (Ym X n) (T1 (Yt X n))))))))) (J trivial (J trivial (J trivial (J trivial (J trivial (T1 trivial))))))) trivial trivial) (J (pq (T1 (J (aj_ X n) (J (akb X n) (J (akd X n) (J (ake X n) (J (akf X n) (J (aki X n) (J (akk X n) (J (akl X n) (J (ako X n) (J (akq X n) (J (aks X n) (J (aku X n) (J (akx X n) (J (akA X n) (J (akD X n) (J (akG X n) (J (akI X n) (J (akL X n) (J (akN X n) (J (akQ X n) (J (akT X n) (J (X9 X n) (J (Ya X n) (J (Yc X n) (J (Yh X n) (J (Yi X n) (J (Yl X n) (J (Yn X n) (J (Yo X n) (J (Yr X n) (J (Yu X n) (J (Yw X n) (J (Yy X n) (J (YB X n) (J (YE X n) (J (YH X n) (T1 (YZ X n))))))))))))))))))))))))))))))))))))))) trivial trivial) (J (pq (J (T1 (YY X n)) (J (T1 (YX X n)) (J trivial (J trivial (J trivial (J (T1 (YW X n)) (J (T1 (YV X n)) (J (T1 (YU X n)) (J (T1 (Yf X n)) (J (T1 (Ye X n)) (J trivial (J trivial (J trivial (J (T1 (YT X n)) (J trivial (J (T1 (YS X n)) (J (T1 (YR X n)) (J (T1 (YP X n)) (J (T1 (YO X n)) (J trivial (J trivial (J (T1 (YN X n)) (J (T1 (YM X n)) (J (T1 (YL X n)) (J (T1 (YK X n)) (J (T1 (YJ X n)) (J (T1 (YI X n)) (J (T1 (YQ X n)) (J trivial (J trivial (J trivial (T1 trivial)))))))))))))))))))))))))))))))) (J (T1 (Za X n)) (T1 (T1 (Zd X n)))) trivial) (J (bd trivial trivial) (J (bd trivial trivial) (J (bd (T1 (J (akV X n) (J (akW X n) (J (akX X n) (J (akY X n) (J (akZ X n) (J (Y' X n) (J (Zb X n) (T1 (Zc X n)))))))))) trivial) (J (bd trivial trivial) (J (pq (J (J (aka X n) (J (akh X n) (J (akn X n) (J (akF X n) (J (akK X n) (J (akS X n) (J (X' X n) (J (Yk X n) (T1 (Yq X n)))))))))) (J trivial (J trivial (J trivial (J trivial (T1 trivial)))))) trivial trivial) (J (bd trivial trivial) (J (bd trivial trivial) (J (bd trivial trivial) (J (pq (J (J (akC X n) (J (Yg X n) (T1 (YG X n)))) (T1 trivial)) trivial trivial) (J (pq (J (T1 (akH X n)) (J trivial (J trivial (J trivial (J trivial (T1 trivial)))))) trivial trivial) (J (bd trivial trivial) (J (pq (J (T1 (akP X n)) (T1 trivial)) trivial trivial) (J (pq (J (T1 (Yd X n)) (J trivial (J trivial (J trivial (J trivial (J trivial (J trivial (J trivial (J trivial (J trivial (T1 trivial))))))))))) trivial trivial) (J (bd trivial trivial) (J (pq (J (J (aj' X n) (J (akg X n) (J (akm X n) (J (akr X n) (J (akE X n) (J (akJ X n) (J (akR X n) (J (X_ X n) (J (Yj X n) (J (Yp X n) (T1 (Yv X n)))))))))))) (J trivial (J trivial (J trivial (J trivial (J trivial (J trivial (J trivial (J trivial (J trivial (J trivial (T1 trivial)))))))))))) trivial trivial) (J (pq (J (J (akB X n) (T1 (YF X n))) (J trivial (J trivial (J trivial (J trivial (T1 trivial)))))) trivial trivial) (J (bd trivial trivial) (J (pq (J (J (akz X n) (T1 (YD X n))) (J trivial (J trivial (J trivial (J trivial (J trivial (J trivial (J trivial (J trivial (J trivial (J trivial (J trivial (J trivial (J trivial (J trivial (J trivial (J trivial (J trivial (J trivial (J trivial (J trivial (J trivial (J trivial (J trivial (J trivial (J trivial (J trivial (J trivial (T1 trivial))))))))))))))))))))))))))))) trivial trivial) (J (bd trivial trivial) (J (pq (J (T1 (akO X n)) (J trivial (J trivial (J trivial (J trivial (T1 trivial)))))) trivial trivial) (J (bd trivial trivial) (J (bd trivial trivial) (J (pq (J (J (akw X n) (T1 (YA X n))) (J trivial (J trivial (J trivial (J trivial (J trivial (J trivial (J (J (akv X n) (T1 (Yz X n))) (J trivial (J trivial (J trivial (J trivial (J trivial (J trivial (J trivial (J trivial (J trivial (J trivial (J trivial (J trivial (T1 trivial))))))))))))))))))))) trivial trivial) (J (pq (J (J (akt X n) (J (aky X n) (J (Yx X n) (T1 (YC X n))))) (J trivial (J trivial (J trivial (J trivial (J trivial (T1 trivial))))))) trivial trivial) (J (bd trivial trivial) (T1 (bd trivial trivial))))))))))))))))))))))))))))))))) trivial (J (z05.mono (fun _ _=>trivial)) (T1 (z3z (II n) (fun l h=>MI n h))))
abbrev P22:List SV:=[V7]
abbrev R22:RV:=.many [V4,qt]
theorem ak2(n:Nat):FO 22 P22 R22 (F.za n):=zg cg.st (z16 _ n) (d:=16) fun _=>by kernel_rfl
noncomputable def o22(n:Nat):=oc 22 P22 R22 (F.za n)
noncomputable def cx8(X:Type)(n:Nat):Cx X:=bc tab.get [(8,Tryz.f8)] [o19 n,o20 n,o21 n,o22 n] [] [] [] []
theorem z36(X:Type)(n:Nat):a_ Tryz.prog SW (cx8 X n):=mx (T1 (J Tryz.func8 (by decide))) (J (zb (aiI n)) (J (zb (aiQ n)) (J (zb (QR n)) (T1 (zb (ak2 n)))))) (T1 (bd trivial trivial)) trivial
abbrev P8:List SV:=[V7]
abbrev R8:RV:=.many [V4,qt]
theorem ok8(n:Nat):FO 8 P8 R8 (F.vg n):=zg cg.st (z36 _ n) (d:=8) fun _=>by kernel_rfl
noncomputable def o8(n:Nat):=oc 8 P8 R8 (F.vg n)
noncomputable def Zf(X:Type)(n:Nat):Cx X:=bc tab.get [(121,Tryz.f121)] [] [] [] [] []
theorem zye(X:Type)(n:Nat):a_ Tryz.prog SW (Zf X n):=mx (T1 (J Tryz.func121 (by decide))) trivial (T1 (bd trivial trivial)) trivial
abbrev Th:List SV:=[.str,.str]
abbrev Ti:RV:=.one .bool
theorem Zg(n:Nat):FO 121 Th Ti (F.qe n):=zg cg.st (zye _ n) (d:=8) fun _=>by kernel_rfl
noncomputable def ak3(n:Nat):=oc 121 Th Ti (F.qe n)
noncomputable def ak4(X:Type)(n:Nat):Cx X:=bc tab.get [(59,Tryz.f59)] [ak3 n] [] [] [] []
theorem z17(X:Type)(n:Nat):a_ Tryz.prog SW (ak4 X n):=mx (T1 (J Tryz.func59 (by decide))) (T1 (zb (Zg n))) (T1 (bd trivial trivial)) trivial
abbrev P59:List SV:=[.str,.str]
abbrev R59:RV:=.many [.str,.bool]
theorem ak7(n:Nat):FO 59 P59 R59 (F.sD n):=zg cg.st (z17 _ n) (d:=8) fun _=>by kernel_rfl
noncomputable def o59(n:Nat):=oc 59 P59 R59 (F.sD n)
noncomputable def ak8(X:Type)(n:Nat):Cx X:=bc tab.get [(25,Tryz.f25)] [o59 n] [] [] [] []
theorem z18(X:Type)(n:Nat):a_ Tryz.prog SW (ak8 X n):=mx (T1 (J Tryz.func25 (by decide))) (T1 (zb (ak7 n))) (T1 (bd trivial trivial)) trivial
abbrev P25:List SV:=[.str,.str]
abbrev R25:RV:=.many [.str,.bool]
theorem ak'(n:Nat):FO 25 P25 R25 (F.n5 n):=zg cg.st (z18 _ n) (d:=8) fun _=>by kernel_rfl
noncomputable def o25(n:Nat):=oc 25 P25 R25 (F.n5 n)
noncomputable def Zh(X:Type)(n:Nat):Cx X:=bc tab.get [(165,Tryz.f165)] [Ot n] [] [] [] []
theorem zyf(X:Type)(n:Nat):a_ Tryz.prog SW (Zh X n):=mx (T1 (J Tryz.func165 (by decide))) (T1 (zb (Ia n))) (T1 (bd trivial trivial)) trivial
abbrev Tj:List SV:=[.str,.str]
abbrev Tl:RV:=.many [.str,.str,.bool]
theorem Zi(n:Nat):FO 165 Tj Tl (F.yL n):=zg cg.st (zyf _ n) (d:=8) fun _=>by kernel_rfl
noncomputable def ala(n:Nat):=oc 165 Tj Tl (F.yL n)
noncomputable def Zj(X:Type)(n:Nat):Cx X:=bc tab.get [(101,Tryz.f101)] [ala n] [] [] [] []
theorem zyg(X:Type)(n:Nat):a_ Tryz.prog SW (Zj X n):=mx (T1 (J Tryz.func101 (by decide))) (T1 (zb (Zi n))) (T1 (bd trivial trivial)) trivial
abbrev Tm:List SV:=[.str,.str]
abbrev Tn:RV:=.many [.str,.str,.bool]
theorem yc(n:Nat):FO 101 Tm Tn (F.kh n):=zg cg.st (zyg _ n) (d:=8) fun _=>by kernel_rfl
noncomputable def B_(n:Nat):=oc 101 Tm Tn (F.kh n)
noncomputable def Zk(X:Type)(n:Nat):Cx X:=bc tab.get [(103,Tryz.f103)] [] [] [] [] []
theorem zyh(X:Type)(n:Nat):a_ Tryz.prog SW (Zk X n):=mx (T1 (J Tryz.func103 (by decide))) trivial (T1 (bd trivial trivial)) trivial
abbrev To:List SV:=[V0,V0]
abbrev Tp:RV:=.many [V3,qt]
theorem Zl(n:Nat):FO 103 To Tp (F.lb n):=zg cg.st (zyh _ n) (d:=8) fun _=>by kernel_rfl
noncomputable def alb(n:Nat):=oc 103 To Tp (F.lb n)
noncomputable def Zm(X:Type)(n:Nat):Cx X:=bc tab.get [(170,Tryz.f170)] [] [] [] [] []
theorem zyi(X:Type)(n:Nat):a_ Tryz.prog SW (Zm X n):=mx (T1 (J Tryz.func170 (by decide))) trivial (T1 (bd trivial trivial)) trivial
abbrev Tq:List SV:=[.str,.str]
abbrev Tr:RV:=.one .bool
theorem JM(n:Nat):FO 170 Tq Tr (F.mT n):=zg cg.st (zyi _ n) (d:=8) fun _=>by kernel_rfl
noncomputable def Ts(n:Nat):=oc 170 Tq Tr (F.mT n)
noncomputable def Zn(X:Type)(n:Nat):Cx X:=bc tab.get [(106,Tryz.f106)] [Ts n] [] [] [] []
theorem zyj(X:Type)(n:Nat):a_ Tryz.prog SW (Zn X n):=mx (T1 (J Tryz.func106 (by decide))) (T1 (zb (JM n))) (T1 (bd trivial trivial)) trivial
abbrev Tt:List SV:=[.str,.str]
abbrev Tu:RV:=.one .bool
theorem JN(n:Nat):FO 106 Tt Tu (F.oN n):=zg cg.st (zyj _ n) (d:=8) fun _=>by kernel_rfl
noncomputable def Tv(n:Nat):=oc 106 Tt Tu (F.oN n)
def alc:Shape:=⟨[(0,mg),(1,v1),(3,V0)],Oe,[],[],[],3,0,0⟩
def Tw:Shape:=⟨[(0,mg),(3,V0)],Oe,[],[],[],3,0,0⟩
noncomputable def JO(X:Type)(n:Nat):bm X:=dp 7 3 0 0 alc [(0,Tw)] [] n fun m ks=>F.jH.da n (xe Tw ks 0) m
noncomputable def JP(X:Type)(n:Nat):Cx X:=bc tab.get [(167,Tryz.f167),(216,Tryz.f216)] [Tv n] [(216,2,[JO X n])] [] [] []
theorem Zo(X:Type)(n:Nat):LO (JP X n) 216 Tryz.f216 0 (JO X n):=fb
theorem zyk(X:Type)(n:Nat):a_ Tryz.prog SW (JP X n):=mx (J (J Tryz.func167 (by decide)) (T1 (J Tryz.func216 (by decide)))) (T1 (zb (JN n))) (J (bd trivial trivial) (T1 (bd (T1 (T1 (Zo X n))) trivial))) trivial
abbrev Tx:List SV:=[.str]
abbrev Tz:RV:=.one qt
theorem Zp(n:Nat):FO 167 Tx Tz (F.jH n):=zg cg.st (zyk _ n) (d:=8) fun _=>by kernel_rfl
noncomputable def ald(n:Nat):=oc 167 Tx Tz (F.jH n)
noncomputable def Zq(X:Type)(n:Nat):Cx X:=bc tab.get [(217,Tryz.f217)] [Ts n] [] [] [] []
theorem zyl(X:Type)(n:Nat):a_ Tryz.prog SW (Zq X n):=mx (T1 (J Tryz.func217 (by decide))) (T1 (zb (JM n))) (T1 (bd trivial trivial)) trivial
abbrev TA:List SV:=[.str,.str]
abbrev TB:RV:=.many [.str,.bool]
theorem Zr(n:Nat):FO 217 TA TB (F.rQ n):=zg cg.st (zyl _ n) (d:=8) fun _=>by kernel_rfl
noncomputable def ale(n:Nat):=oc 217 TA TB (F.rQ n)
noncomputable def Zs(X:Type)(n:Nat):Cx X:=bc tab.get [(168,Tryz.f168)] [ale n] [] [] [] []
theorem zym(X:Type)(n:Nat):a_ Tryz.prog SW (Zs X n):=mx (T1 (J Tryz.func168 (by decide))) (T1 (zb (Zr n))) (T1 (bd trivial trivial)) trivial
abbrev TC:List SV:=[.str,.str]
abbrev TE:RV:=.many [.str,.bool]
theorem JQ(n:Nat):FO 168 TC TE (F.lx n):=zg cg.st (zym _ n) (d:=8) fun _=>by kernel_rfl
noncomputable def TF(n:Nat):=oc 168 TC TE (F.lx n)
abbrev TH:List SV:=[.str,.str]
abbrev TJ:RV:=.one .str
theorem Zt(n:Nat):FO 169 TH TJ (O.sR n):=zxd (enters Tryz.func169 (by kernel_rfl) (by decide)) Tryz.strings_TrimLeft_one n
noncomputable def alf(n:Nat):=oc 169 TH TJ (O.sR n)
def alg:Shape:=⟨[(2,v1),(3,jN),(10,.str),(11,v48),(66,V0),(67,V0)],Of,[],[],[],4,0,0⟩
def TL:Shape:=⟨[(2,v1),(3,jN),(11,v48)],Of,[],[],[],4,0,0⟩
noncomputable def JR(X:Type)(n:Nat):bm X:=dp 8 0 0 0 alg [(0,TL)] [] n fun m ks=>F.jJ.uh n (xe TL ks 0) m
noncomputable def JS(X:Type)(n:Nat):Cx X:=bc tab.get [(104,Tryz.f104)] [Xi n,B_ n,OD n,Qs n,ald n,TF n,alf n] [(104,14,[JR X n])] [] [(104,3,[(1,2)])] []
theorem Zu(X:Type)(n:Nat):LO (JS X n) 104 Tryz.f104 0 (JR X n):=fb
theorem zyn(X:Type)(n:Nat):a_ Tryz.prog SW (JS X n):=mx (T1 (J Tryz.func104 (by decide))) (J (zb (Ie n)) (J (zb (yc n)) (J (zb (Ib n)) (J (zb (IC n)) (J (zb (Zp n)) (J (zb (JQ n)) (T1 (zb (Zt n))))))))) (T1 (bd (T1 (T1 (Zu X n))) trivial)) trivial
abbrev TM:List SV:=[.str]
abbrev TN:RV:=.many [V9,qt]
theorem Df(n:Nat):FO 104 TM TN (F.jJ n):=zg cg.st (zyn _ n) (d:=8) fun _=>by kernel_rfl
noncomputable def JT(n:Nat):=oc 104 TM TN (F.jJ n)
def alh:Shape:=⟨[(0,.str),(4,V0)],[],[],[],[],0,0,0⟩
def Et:Shape:=⟨[(2,V0),(3,V0)],[],[],[],[],0,0,0⟩
noncomputable def JU(X:Type)(n:Nat):bm X:=dp 8 0 0 0 alh [(0,rR)] [Et] n fun m ks=>F.jw.L2 n (fun _=>xe rR ks 0) (xr Et ks) m
noncomputable def JV(X:Type)(n:Nat):Cx X:=bc tab.get [(105,Tryz.f105)] [o97 n] [(105,2,[JU X n])] [] [] []
theorem Zv(X:Type)(n:Nat):LO (JV X n) 105 Tryz.f105 0 (JU X n):=fb
theorem zyo(X:Type)(n:Nat):a_ Tryz.prog SW (JV X n):=mx (T1 (J Tryz.func105 (by decide))) (T1 (zb (Qi n))) (T1 (bd (T1 (T1 (Zv X n))) trivial)) trivial
abbrev TP:List SV:=[.str]
abbrev TQ:RV:=.many [V0,V0]
theorem Zw(n:Nat):FO 105 TP TQ (F.jw n):=zg cg.st (zyo _ n) (d:=8) fun _=>by kernel_rfl
noncomputable def ali(n:Nat):=oc 105 TP TQ (F.jw n)
noncomputable def Zx(X:Type)(n:Nat):Cx X:=bc tab.get [(171,Tryz.f171)] [] [] [] [] []
theorem zyp(X:Type)(n:Nat):a_ Tryz.prog SW (Zx X n):=mx (T1 (J Tryz.func171 (by decide))) trivial (T1 (bd trivial trivial)) trivial
abbrev TR:List SV:=[V0,V0]
abbrev TS:RV:=.many [V0,qt]
theorem JW(n:Nat):FO 171 TR TS (F.jM n):=zg cg.st (zyp _ n) (d:=8) fun _=>by kernel_rfl
noncomputable def TT(n:Nat):=oc 171 TR TS (F.jM n)
def alj:Shape:=⟨[(0,.str),(3,v1),(4,jN),(16,V17),(17,V0)],Og,[],[],[],2,0,0⟩
def TU:Shape:=⟨[(0,.str),(3,v1),(4,jN)],Og,[],[],[],2,0,0⟩
noncomputable def JX(X:Type)(n:Nat):bm X:=dp 8 0 0 0 alj [(0,TU)] [] n fun m ks=>F.zx.L5 n (xe TU ks 0) m
def alk:Shape:=⟨[(3,v1),(7,.str),(9,v48),(10,(.const (.fn 172 [] [(.ref 3 0)]))),(81,V0)],Oh,[],[],[],4,0,0⟩
def TV:Shape:=⟨[(3,v1),(9,v48)],Oh,[],[],[],4,0,0⟩
noncomputable def JY(X:Type)(n:Nat):bm X:=dp 8 0 0 0 alk [(3,TV)] [] n fun m ks=>F.zx.xV n (xe TV ks 3) m
noncomputable def Dg(X:Type)(n:Nat):Cx X:=bc tab.get [(107,Tryz.f107),(172,Tryz.f172)] [yb n,TT n] [(107,5,[JX X n]),(107,23,[JY X n])] [] [] []
theorem Zy(X:Type)(n:Nat):LO (Dg X n) 107 Tryz.f107 0 (JX X n):=fb
theorem Zz(X:Type)(n:Nat):LO (Dg X n) 107 Tryz.f107 1 (JY X n):=fb
theorem zyq(X:Type)(n:Nat):a_ Tryz.prog SW (Dg X n):=mx (J (J Tryz.func107 (by decide)) (T1 (J Tryz.func172 (by decide)))) (J (zb (sW n)) (T1 (zb (JW n)))) (J (bd (J (T1 (Zy X n)) (T1 (T1 (Zz X n)))) trivial) (T1 (bd trivial trivial))) trivial
abbrev TW:List SV:=[.str]
abbrev TX:RV:=.many [V0,qt]
theorem JZ(n:Nat):FO 107 TW TX (F.zx n):=zg cg.st (zyq _ n) (d:=8) fun _=>by kernel_rfl
noncomputable def TY(n:Nat):=oc 107 TW TX (F.zx n)
def alm:Shape:=⟨[(2,jN),(3,mg),(4,v48),(6,v70),(9,.bool),(19,V0),(141,.bool)],D6,t248,[],[],5,0,0⟩
def nP:Shape:=⟨[(2,jN),(3,mg)],[[.str],r0,[V0,V0]],[],[],[],3,0,0⟩
def J0:Shape:=⟨[(2,jN),(3,mg),(4,v48),(6,v70),(9,.bool)],D6,t248,[],[],5,0,0⟩
noncomputable def J1(X:Type)(n:Nat):ar X:=aF 8 0 0 0 alm [J0] [] [nP] fun ks=>F.zd.Hs n (xr nP ks) (xn J0 ks)
noncomputable def J2(X:Type)(n:Nat):ar X:=aF 8 0 0 0 J0 [] [] [nP] fun ks=>F.zd.Ht n (xr nP ks)
def aln:Shape:=⟨[(2,jN),(3,mg),(4,v48),(6,v70),(9,.bool),(13,x8),(16,V0),(18,.str),(19,V0)],H5,t248,[],[],7,0,0⟩
noncomputable def J3(X:Type)(n:Nat):ar X:=aF 8 0 0 0 aln [] [] [nP] fun ks=>F.zd.Hu n (xr nP ks)
def alo:Shape:=⟨[(1,v1),(2,jN),(3,mg),(4,v48),(5,D7),(6,v70),(7,.str),(9,.bool),(12,v46),(13,x8),(16,V0)],H5,t248,[],[],7,0,0⟩
noncomputable def J4(X:Type)(n:Nat):ar X:=aF 8 0 0 0 alo [] [] [nP] fun ks=>F.zd.Hv n (xr nP ks)
def alp:Shape:=⟨[(1,v1),(2,jN),(3,mg),(4,v48),(5,D7),(6,v70),(7,.str),(9,.bool),(10,.str),(11,V0),(12,v46),(13,x8),(14,.str),(15,V0)],H5,t248,[],[],7,0,0⟩
noncomputable def J5(X:Type)(n:Nat):ar X:=aF 8 0 0 0 alp [] [] [nP] fun ks=>F.zd.ve n (xr nP ks)
def alq:Shape:=⟨[(1,v1),(2,jN),(3,mg),(4,v48),(5,D7),(6,v70),(7,.str),(9,.bool),(10,.str),(11,V0)],D6,t248,[],[],5,0,0⟩
noncomputable def J6(X:Type)(n:Nat):ar X:=aF 8 0 0 0 alq [] [] [nP] fun ks=>F.zd.qN n (xr nP ks)
def alr:Shape:=⟨[(1,v1),(2,jN),(3,mg),(4,v48),(5,D7),(6,v70),(7,.str),(9,.bool)],D6,t248,[],[],5,0,0⟩
noncomputable def J7(X:Type)(n:Nat):ar X:=aF 8 0 0 0 alr [] [] [nP] fun ks=>F.zd.C5 n (xr nP ks)
noncomputable def we(X:Type)(n:Nat):Cx X:=bc tab.get [(52,Tryz.f52),(100,Tryz.f100)] [B_ n,yb n,alb n,JT n,ali n,Tv n,TY n] [] [] [(52,21,[(2,5),(2,7)])] [] [(52,5,[J7 X n]),(52,10,[J6 X n]),(52,16,[J5 X n]),(52,21,[J4 X n]),(52,28,[J3 X n]),(52,30,[J1 X n]),(52,31,[J2 X n])]
theorem ZA(X:Type)(n:Nat):CO (we X n) 52 Tryz.f52 37 (J1 X n):=fun _ _=>by kernel_rfl
theorem ZB(X:Type)(n:Nat):CO (we X n) 52 Tryz.f52 36 (J2 X n):=fun _ _=>by kernel_rfl
theorem ZC(X:Type)(n:Nat):CO (we X n) 52 Tryz.f52 34 (J3 X n):=fun _ _=>by kernel_rfl
theorem ZD(X:Type)(n:Nat):CO (we X n) 52 Tryz.f52 21 (J4 X n):=fun _ _=>by kernel_rfl
theorem ZE(X:Type)(n:Nat):CO (we X n) 52 Tryz.f52 19 (J5 X n):=fun _ _=>by kernel_rfl
theorem ZF(X:Type)(n:Nat):CO (we X n) 52 Tryz.f52 11 (J6 X n):=fun _ _=>by kernel_rfl
theorem ZG(X:Type)(n:Nat):CO (we X n) 52 Tryz.f52 4 (J7 X n):=fun _ _=>by kernel_rfl
theorem z19(X:Type)(n:Nat):a_ Tryz.prog SW (we X n):=mx (J (J Tryz.func52 (by decide)) (T1 (J Tryz.func100 (by decide)))) (J (zb (yc n)) (J (zb (sW n)) (J (zb (Zl n)) (J (zb (Df n)) (J (zb (Zw n)) (J (zb (JN n)) (T1 (zb (JZ n))))))))) (J (pq (J trivial (J trivial (J trivial (J trivial (J (T1 (ZG X n)) (J trivial (J trivial (J trivial (J trivial (J trivial (J trivial (J (T1 (ZF X n)) (J trivial (J trivial (J trivial (J trivial (J trivial (J trivial (J trivial (J (T1 (ZE X n)) (J trivial (J (T1 (ZD X n)) (J trivial (J trivial (J trivial (J trivial (J trivial (J trivial (J trivial (J trivial (J trivial (J trivial (J trivial (J trivial (J (T1 (ZC X n)) (J trivial (J (T1 (ZB X n)) (J (T1 (ZA X n)) (J trivial (J trivial (J trivial (J trivial (T1 trivial))))))))))))))))))))))))))))))))))))))))))) trivial trivial) (T1 (bd trivial trivial))) trivial
abbrev P52:List SV:=[.str]
abbrev R52:RV:=.many [V3,qt]
theorem alv(n:Nat):FO 52 P52 R52 (F.zd n):=zg cg.st (z19 _ n) (d:=8) fun _=>by kernel_rfl
noncomputable def o52(n:Nat):=oc 52 P52 R52 (F.zd n)
abbrev TZ:List SV:=[.str,.str]
abbrev T0:RV:=.one V5
theorem J8(n:Nat):FO 114 TZ T0 (O.mN n):=zuh (enters Tryz.func114 (by kernel_rfl) (by decide)) Tryz.sV n
noncomputable def T3(n:Nat):=oc 114 TZ T0 (O.mN n)
def alw:Shape:=⟨[(0,.str),(6,V15),(7,V0)],[],[],[],[],0,0,0⟩
noncomputable def J9(X:Type)(n:Nat):bm X:=dp 8 0 0 0 alw [(0,rR)] [Et] n fun m ks=>F.nF.L2 n (fun _=>xe rR ks 0) (xr Et ks) m
noncomputable def J_(X:Type)(n:Nat):Cx X:=bc tab.get [(178,Tryz.f178)] [Qw n] [(178,2,[J9 X n])] [] [] []
theorem ZH(X:Type)(n:Nat):LO (J_ X n) 178 Tryz.f178 0 (J9 X n):=fb
theorem zyr(X:Type)(n:Nat):a_ Tryz.prog SW (J_ X n):=mx (T1 (J Tryz.func178 (by decide))) (T1 (zb (ID n))) (T1 (bd (T1 (T1 (ZH X n))) trivial)) trivial
abbrev T4:List SV:=[.str]
abbrev T5:RV:=.many [V0,V0]
theorem ZI(n:Nat):FO 178 T4 T5 (F.nF n):=zg cg.st (zyr _ n) (d:=8) fun _=>by kernel_rfl
noncomputable def alx(n:Nat):=oc 178 T4 T5 (F.nF n)
abbrev T6:List SV:=[.str]
abbrev T7:RV:=.many [V0,.err]
theorem ZJ(n:Nat):FO 254 T6 T7 (O.atoi n):=z00 (enters Tryz.func254 (by kernel_rfl) (by decide)) (fun s hs v hv w hw=>(Tryz.strconv_Atoi_ok s (by omega) v hv w).mono fun e w' ⟨a,b⟩=>⟨a,by rcases b with rfl|⟨t,rfl⟩;exact Below.refl _ _;exact zph⟩)
 (fun s hs n1 n2 w hw=>by obtain⟨ev,hv,nh⟩:=Mx hw;exact(Any.strconv_Atoi_syntax Tryz.vk s (by omega) (by cases hq:Lib.atoiAll s.data.toList with|ok v=>exact absurd hq (n1 v) |range=>exact absurd hq n2|_=>rfl) ev w hv nh).mono fun e w' ⟨N,a,_,_,b⟩=>⟨⟨_,_,a⟩,b⟩)
 (fun s hs hq w hw=>by obtain⟨ev,hv,nh⟩:=My hw;exact(Any.strconv_Atoi_range Tryz.vk s (by omega) hq ev w hv nh).mono fun e w' ⟨N,a,_,_,b⟩=>⟨⟨_,_,a⟩,b⟩) n
noncomputable def aly(n:Nat):=oc 254 T6 T7 (O.atoi n)
noncomputable def ZK(X:Type)(n:Nat):Cx X:=bc tab.get [(225,Tryz.f225)] [yb n,TT n,aly n] [] [] [] []
theorem zys(X:Type)(n:Nat):a_ Tryz.prog SW (ZK X n):=mx (T1 (J Tryz.func225 (by decide))) (J (zb (sW n)) (J (zb (JW n)) (T1 (zb (ZJ n))))) (T1 (bd trivial trivial)) trivial
abbrev T8:List SV:=[.str,V0,V0]
abbrev T9:RV:=.many [V0,qt]
theorem ZL(n:Nat):FO 225 T8 T9 (F.AD n):=zg cg.st (zys _ n) (d:=8) fun _=>by kernel_rfl
noncomputable def alz(n:Nat):=oc 225 T8 T9 (F.AD n)
noncomputable def ZM(X:Type)(n:Nat):Cx X:=bc tab.get [(183,Tryz.f183)] [alz n] [] [] [] []
theorem zyt(X:Type)(n:Nat):a_ Tryz.prog SW (ZM X n):=mx (T1 (J Tryz.func183 (by decide))) (T1 (zb (ZL n))) (T1 (bd trivial trivial)) trivial
abbrev T_:List SV:=[.str]
abbrev Ua:RV:=.many [V0,qt]
theorem J'(n:Nat):FO 183 T_ Ua (F.uY n):=zg cg.st (zyt _ n) (d:=8) fun _=>by kernel_rfl
noncomputable def Ub(n:Nat):=oc 183 T_ Ua (F.uY n)
def alA:Shape:=⟨[(3,v1),(4,H6),(5,V0),(13,V5),(14,V0),(15,V0)],vX,[true],[],[],1,0,0⟩
def Uc:Shape:=⟨[(3,v1),(4,H6)],vX,[true],[],[],1,0,0⟩
def Ud:Shape:=⟨[(2,H6),(3,v1)],vX,[true],[],[],1,0,0⟩
noncomputable def Ka(X:Type)(n:Nat):bm X:=dp 8 0 0 0 alA [(0,Uc)] [Ud] n fun m ks=>F.kD.L4 n (xe Uc ks 0) (xr Ud ks) m
noncomputable def Kb(X:Type)(n:Nat):Cx X:=bc tab.get [(224,Tryz.f224)] [B_ n,T3 n,Il n] [(224,4,[Ka X n])] [] [] []
theorem ZN(X:Type)(n:Nat):LO (Kb X n) 224 Tryz.f224 0 (Ka X n):=fb
theorem zyu(X:Type)(n:Nat):a_ Tryz.prog SW (Kb X n):=mx (T1 (J Tryz.func224 (by decide))) (J (zb (yc n)) (J (zb (J8 n)) (T1 (zb (Dd n))))) (T1 (bd (T1 (T1 (ZN X n))) trivial)) trivial
abbrev Ue:List SV:=[.str]
abbrev Uf:RV:=.many [V2,qt]
theorem ZO(n:Nat):FO 224 Ue Uf (F.kD n):=zg cg.st (zyu _ n) (d:=8) fun _=>by kernel_rfl
noncomputable def alB(n:Nat):=oc 224 Ue Uf (F.kD n)
def alC:Shape:=⟨[(0,mg),(4,v70),(8,V0),(42,V5),(43,V0),(44,V0)],D8,t59,[],[],5,3,0⟩
def zJ:Shape:=⟨[(4,v70)],D8,t59,[],[],5,3,0⟩
noncomputable def Kc(X:Type)(n:Nat):bm X:=dp 7 4 3 0 alC [(1,zJ)] [zJ] n fun m ks=>F.ze.di n (xe zJ ks 1) (xr zJ ks) m
def alD:Shape:=⟨[(0,mg),(1,.str),(4,v70),(19,V18),(20,V0)],D8,t59,[],[],5,3,0⟩
def Ug:Shape:=⟨[(0,mg),(4,v70)],D8,t59,[],[],5,3,0⟩
noncomputable def Kd(X:Type)(n:Nat):bm X:=dp 7 4 3 0 alD [(0,Ug)] [zJ] n fun m ks=>F.ze.ay n (xe Ug ks 0) (xr zJ ks) m
def alE:Shape:=⟨[(0,.str),(2,v1),(3,jN),(4,mg),(5,V5),(6,Ol),(7,v48),(26,V5),(27,V0),(28,V0)],Oj,t59,[],[],4,0,0⟩
def Uh:Shape:=⟨[(0,.str),(2,v1),(3,jN),(4,mg),(5,V5),(6,Ol),(7,v48)],Oj,t59,[],[],4,0,0⟩
noncomputable def Ke(X:Type)(n:Nat):bm X:=dp 8 0 0 0 alE [(0,Uh)] [] n fun m ks=>F.ze.L8 n (xe Uh ks 0) m
noncomputable def Eu(X:Type)(n:Nat):Cx X:=bc tab.get [(54,Tryz.f54),(115,Tryz.f115),(116,Tryz.f116),(117,Tryz.f117),(177,Tryz.f177),(179,Tryz.f179),(180,Tryz.f180),(181,Tryz.f181)] [o64 n,B_ n,yb n,JT n,TY n,T3 n,TF n,alx n,Ub n,alB n] [(54,8,[Ke X n]),(115,9,[Kc X n]),(117,2,[Kd X n])] [] [(54,20,[(1,2)]),(54,21,[(4,5)])] []
theorem ZP(X:Type)(n:Nat):LO (Eu X n) 115 Tryz.f115 0 (Kc X n):=fb
theorem ZQ(X:Type)(n:Nat):LO (Eu X n) 117 Tryz.f117 0 (Kd X n):=fb
theorem ZR(X:Type)(n:Nat):LO (Eu X n) 54 Tryz.f54 0 (Ke X n):=fb
theorem z2a(X:Type)(n:Nat):a_ Tryz.prog SW (Eu X n):=mx (J (J Tryz.func54 (by decide)) (J (J Tryz.func115 (by decide)) (J (J Tryz.func116 (by decide)) (J (J Tryz.func117 (by decide)) (J (J Tryz.func177 (by decide)) (J (J Tryz.func179 (by decide)) (J (J Tryz.func180 (by decide)) (T1 (J Tryz.func181 (by decide)))))))))) (J (zb (Pm n)) (J (zb (yc n)) (J (zb (sW n)) (J (zb (Df n)) (J (zb (JZ n)) (J (zb (J8 n)) (J (zb (JQ n)) (J (zb (ZI n)) (J (zb (J' n)) (T1 (zb (ZO n)))))))))))) (J (bd (T1 (T1 (ZR X n))) trivial) (J (bd (T1 (T1 (ZP X n))) trivial) (J (bd trivial trivial) (J (bd (T1 (T1 (ZQ X n))) trivial) (J (bd trivial trivial) (J (bd trivial trivial) (J (bd trivial trivial) (T1 (bd trivial trivial))))))))) trivial
abbrev P54:List SV:=[.str]
abbrev R54:RV:=.many [V3,qt]
theorem alH(n:Nat):FO 54 P54 R54 (F.ze n):=zg cg.st (z2a _ n) (d:=8) fun _=>by kernel_rfl
noncomputable def o54(n:Nat):=oc 54 P54 R54 (F.ze n)
def alI:Shape:=⟨[(0,v12),(1,v70),(3,V0),(4,V0),(5,.bool)],H7,t248,[.ready],[(0,56,4,[(4,mg),(5,v48)])],5,0,1⟩
def Ui:Shape:=⟨[],H7,t248,[.ready],[],5,0,1⟩
def Uj:Shape:=⟨[],H7,t248,[.done (.ex 0)],[],5,0,1⟩
noncomputable def Kf(X:Type)(n:Nat):bm X:=dp 7 5 0 1 alI [(0,Ui)] [Uj] n fun m ks=>F.zo.bn n (xe Ui ks 0) (xr Uj ks) m
noncomputable def Kg(X:Type)(n:Nat):Cx X:=bc tab.get [(56,Tryz.f56),(118,Tryz.f118),(119,Tryz.f119),(182,Tryz.f182)] [B_ n,yb n,JT n,Ub n] [(182,2,[Kf X n])] [(56,4,Tryz.f56,[4,5],0)] [(56,13,[(1,2)]),(56,14,[(1,2)])] []
theorem ZS(X:Type)(n:Nat):LO (Kg X n) 182 Tryz.f182 0 (Kf X n):=fb
theorem z2b(X:Type)(n:Nat):a_ Tryz.prog SW (Kg X n):=mx (J (J Tryz.func56 (by decide)) (J (J Tryz.func118 (by decide)) (J (J Tryz.func119 (by decide)) (T1 (J Tryz.func182 (by decide)))))) (J (zb (yc n)) (J (zb (sW n)) (J (zb (Df n)) (T1 (zb (J' n)))))) (J (bd trivial (T1 (Hp (cx:=Kg X n) (g:=56) (i:=4) (lv:=[4,5]) (show _=some (Tryz.f56.ntmps,_,tZ Tryz.f56 0)by kernel_rfl)))) (J (bd trivial trivial) (J (bd trivial trivial) (T1 (bd (T1 (T1 (ZS X n))) trivial))))) (T1 (J Tryz.func56 rfl))
abbrev P56:List SV:=[.str]
abbrev R56:RV:=.many [V3,qt]
theorem alL(n:Nat):FO 56 P56 R56 (F.zo n):=zg cg.st (z2b _ n) (d:=8) fun _=>by kernel_rfl
noncomputable def o56(n:Nat):=oc 56 P56 R56 (F.zo n)
noncomputable def alM(X:Type)(n:Nat):Cx X:=bc tab.get [(23,Tryz.f23),(26,Tryz.f26)] [o52 n,o54 n,o56 n] [] [] [] []
theorem z2c(X:Type)(n:Nat):a_ Tryz.prog SW (alM X n):=mx (J (J Tryz.func23 (by decide)) (T1 (J Tryz.func26 (by decide)))) (J (zb (alv n)) (J (zb (alH n)) (T1 (zb (alL n))))) (J (bd trivial trivial) (T1 (bd trivial trivial))) trivial
abbrev P26:List SV:=[.str,V0]
abbrev R26:RV:=.many [V3,qt]
theorem alP(n:Nat):FO 26 P26 R26 (F.vh n):=zg cg.st (z2c _ n) (d:=8) fun _=>by kernel_rfl
noncomputable def o26(n:Nat):=oc 26 P26 R26 (F.vh n)
abbrev Uk:List SV:=[.str,wN]
abbrev Ul:RV:=.one V0
theorem ZT(n:Nat):FO 120 Uk Ul (O.indexB n):=zui (enters Tryz.func120 (by kernel_rfl) (by decide)) Tryz.stringslite_IndexByte n
noncomputable def alQ(n:Nat):=oc 120 Uk Ul (O.indexB n)
noncomputable def alR(X:Type)(n:Nat):Cx X:=bc tab.get [(58,Tryz.f58)] [alQ n] [] [] [] []
theorem z2d(X:Type)(n:Nat):a_ Tryz.prog SW (alR X n):=mx (T1 (J Tryz.func58 (by decide))) (T1 (zb (ZT n))) (T1 (bd trivial trivial)) trivial
abbrev P58:List SV:=[.str,wN]
abbrev R58:RV:=.one V0
theorem alU(n:Nat):FO 58 P58 R58 (F.wu n):=zg cg.st (z2d _ n) (d:=8) fun _=>by kernel_rfl
noncomputable def o58(n:Nat):=oc 58 P58 R58 (F.wu n)
def alV:Shape:=⟨H9,H8,t11,[.ready],[(0,9,7,[(3,v1),(4,jN),(5,mg),(8,v46),(9,x8)])],8,0,1⟩
def Um:Shape:=⟨[],H8,t11,[.ready],[],8,0,1⟩
def Un:Shape:=⟨[],H8,t11,[.done .ret],[],8,0,1⟩
noncomputable def Kh(X:Type)(n:Nat):bm X:=dp 7 8 0 1 alV [(0,Um)] [Un] n fun m ks=>F.iI.cq n (xe Um ks 0) (xr Un ks) m
def alW:Shape:=⟨H9,H_,t11,[.ready],[(0,9,7,[(3,v1),(4,jN),(5,mg),(8,v46),(9,x8)])],8,0,1⟩
def Uo:Shape:=⟨[],H_,t11,[.ready],[],8,0,1⟩
def Up:Shape:=⟨[],H_,t11,[.done .ret],[],8,0,1⟩
noncomputable def Ki(X:Type)(n:Nat):bm X:=dp 7 8 0 1 alW [(0,Uo)] [Up] n fun m ks=>F.iI.cq n (xe Uo ks 0) (xr Up ks) m
def alX:Shape:=⟨H9,H',t11,[.ready],[(0,9,7,[(3,v1),(4,jN),(5,mg),(8,v46),(9,x8)])],8,0,1⟩
def Uq:Shape:=⟨[],H',t11,[.ready],[],8,0,1⟩
def Ur:Shape:=⟨[],H',t11,[.done .ret],[],8,0,1⟩
noncomputable def Kj(X:Type)(n:Nat):bm X:=dp 7 8 0 1 alX [(0,Uq)] [Ur] n fun m ks=>F.iI.cq n (xe Uq ks 0) (xr Ur ks) m
noncomputable def Kk(X:Type)(n:Nat):Cx X:=bc tab.get [(9,Tryz.f9),(23,Tryz.f23),(24,Tryz.f24),(57,Tryz.f57)] [o25 n,o26 n,o58 n] [(57,0,[Kh X n,Ki X n,Kj X n])] [(9,7,Tryz.f9,[3,4,5,8,9],0)] [(9,17,[(1,7),(2,7),(4,7)])] []
theorem ZU(X:Type)(n:Nat):LO (Kk X n) 57 Tryz.f57 0 (Kh X n):=fb
theorem ZV(X:Type)(n:Nat):LO (Kk X n) 57 Tryz.f57 0 (Ki X n):=fb
theorem ZW(X:Type)(n:Nat):LO (Kk X n) 57 Tryz.f57 0 (Kj X n):=fb
theorem z38(X:Type)(n:Nat):a_ Tryz.prog SW (Kk X n):=mx (J (J Tryz.func9 (by decide)) (J (J Tryz.func23 (by decide)) (J (J Tryz.func24 (by decide)) (T1 (J Tryz.func57 (by decide)))))) (J (zb (ak' n)) (J (zb (alP n)) (T1 (zb (alU n))))) (J (bd trivial (T1 (Hp (cx:=Kk X n) (g:=9) (i:=7) (lv:=[3,4,5,8,9]) (show _=some (Tryz.f9.ntmps,_,tZ Tryz.f9 0)by kernel_rfl)))) (J (bd trivial trivial) (J (bd trivial trivial) (T1 (bd (T1 (J (ZU X n) (J (ZV X n) (T1 (ZW X n))))) trivial))))) (T1 (J Tryz.func9 rfl))
abbrev P9:List SV:=[V7,V0]
abbrev R9:RV:=.many [V4,qt]
theorem ok9(n:Nat):FO 9 P9 R9 (F.iI n):=zg cg.st (z38 _ n) (d:=8) fun _=>by kernel_rfl
noncomputable def o9(n:Nat):=oc 9 P9 R9 (F.iI n)
def alY:Shape:=⟨[(0,V1),(1,V1),(12,V0),(13,V0)],[],[],[],[],0,0,0⟩
noncomputable def Kl(X:Type)(n:Nat):bm X:=dp 8 0 0 0 alY [(0,rR)] [Ff] n fun m ks=>F.zf.L4 n (fun _=>xe rR ks 0) (xr Ff ks) m
noncomputable def Km(X:Type)(n:Nat):Cx X:=bc tab.get [(136,Tryz.f136)] [] [(136,4,[Kl X n])] [] [] []
theorem ZX(X:Type)(n:Nat):LO (Km X n) 136 Tryz.f136 0 (Kl X n):=fb
theorem zyv(X:Type)(n:Nat):a_ Tryz.prog SW (Km X n):=mx (T1 (J Tryz.func136 (by decide))) trivial (T1 (bd (T1 (T1 (ZX X n))) trivial)) trivial
abbrev Us:List SV:=[V1,V1]
abbrev Ut:RV:=.one .bool
theorem ZY(n:Nat):FO 136 Us Ut (F.zf n):=zg cg.st (zyv _ n) (d:=8) fun _=>by kernel_rfl
noncomputable def alZ(n:Nat):=oc 136 Us Ut (F.zf n)
noncomputable def al0(X:Type)(n:Nat):Cx X:=bc tab.get [(65,Tryz.f65)] [alZ n] [] [] [] []
theorem z2e(X:Type)(n:Nat):a_ Tryz.prog SW (al0 X n):=mx (T1 (J Tryz.func65 (by decide))) (T1 (zb (ZY n))) (T1 (bd trivial trivial)) trivial
abbrev P65:List SV:=[V1,V1]
abbrev R65:RV:=.one .bool
theorem al3(n:Nat):FO 65 P65 R65 (F.wv n):=zg cg.st (z2e _ n) (d:=8) fun _=>by kernel_rfl
noncomputable def o65(n:Nat):=oc 65 P65 R65 (F.wv n)
def al4:Shape:=⟨[(0,V2),(1,V2),(12,V0),(13,V0)],[],[],[],[],0,0,0⟩
noncomputable def Kn(X:Type)(n:Nat):bm X:=dp 8 0 0 0 al4 [(0,rR)] [Ff] n fun m ks=>F.zg.L4 n (fun _=>xe rR ks 0) (xr Ff ks) m
noncomputable def Ko(X:Type)(n:Nat):Cx X:=bc tab.get [(137,Tryz.f137)] [] [(137,4,[Kn X n])] [] [] []
theorem ZZ(X:Type)(n:Nat):LO (Ko X n) 137 Tryz.f137 0 (Kn X n):=fb
theorem zyw(X:Type)(n:Nat):a_ Tryz.prog SW (Ko X n):=mx (T1 (J Tryz.func137 (by decide))) trivial (T1 (bd (T1 (T1 (ZZ X n))) trivial)) trivial
abbrev Uu:List SV:=[V2,V2]
abbrev Uv:RV:=.one .bool
theorem Z_(n:Nat):FO 137 Uu Uv (F.zg n):=zg cg.st (zyw _ n) (d:=8) fun _=>by kernel_rfl
noncomputable def al5(n:Nat):=oc 137 Uu Uv (F.zg n)
noncomputable def al6(X:Type)(n:Nat):Cx X:=bc tab.get [(66,Tryz.f66)] [al5 n] [] [] [] []
theorem z2f(X:Type)(n:Nat):a_ Tryz.prog SW (al6 X n):=mx (T1 (J Tryz.func66 (by decide))) (T1 (zb (Z_ n))) (T1 (bd trivial trivial)) trivial
abbrev P66:List SV:=[V2,V2]
abbrev R66:RV:=.one .bool
theorem al9(n:Nat):FO 66 P66 R66 (F.wD n):=zg cg.st (z2f _ n) (d:=8) fun _=>by kernel_rfl
noncomputable def o66(n:Nat):=oc 66 P66 R66 (F.wD n)
noncomputable def al_(X:Type)(n:Nat):Cx X:=bc tab.get [(30,Tryz.f30)] [o65 n,o66 n] [] [] [] []
theorem z2g(X:Type)(n:Nat):a_ Tryz.prog SW (al_ X n):=mx (T1 (J Tryz.func30 (by decide))) (J (zb (al3 n)) (T1 (zb (al9 n)))) (T1 (bd trivial trivial)) trivial
abbrev P30:List SV:=[V3,V3]
abbrev R30:RV:=.one .bool
theorem amb(n:Nat):FO 30 P30 R30 (F.sT n):=zg cg.st (z2g _ n) (d:=8) fun _=>by kernel_rfl
noncomputable def o30(n:Nat):=oc 30 P30 R30 (F.sT n)
def amc:Shape:=⟨[(1,V4),(2,(.const (.fn 30 [] []))),(15,V4),(16,V0),(17,V0)],[],[],[],[],0,0,0⟩
def Ev:Shape:=⟨[(6,.bool)],[],[],[],[],0,0,0⟩
noncomputable def Kp(X:Type)(n:Nat):bm X:=dp 7 0 0 0 amc [(0,rR)] [Ev] n fun m ks=>F.jz.ae n (fun _=>xe rR ks 0) (xr Ev ks) m
noncomputable def Uw(X:Type)(n:Nat):Cx X:=bc tab.get [(11,Tryz.f11),(29,Tryz.f29)] [o30 n] [(29,4,[Kp X n])] [] [] []
theorem Z'(X:Type)(n:Nat):LO (Uw X n) 29 Tryz.f29 0 (Kp X n):=fb
theorem z2h(X:Type)(n:Nat):a_ Tryz.prog SW (Uw X n):=mx (J (J Tryz.func11 (by decide)) (T1 (J Tryz.func29 (by decide)))) (T1 (zb (amb n))) (J (bd trivial trivial) (T1 (bd (T1 (T1 (Z' X n))) trivial))) trivial
abbrev P11:List SV:=[V4,V4]
abbrev R11:RV:=.one .bool
theorem amf(n:Nat):FO 11 P11 R11 (F.jz n):=zg cg.st (z2h _ n) (d:=8) fun _=>by kernel_rfl
noncomputable def o11(n:Nat):=oc 11 P11 R11 (F.jz n)
def amg:Shape:=⟨[(0,V4),(1,V0),(7,V6),(13,v42),(14,V0)],[],[true],[],[],0,0,0⟩
def Ux:Shape:=⟨[(0,V4),(13,v42)],[],[true],[],[],0,0,0⟩
noncomputable def Kq(X:Type)(n:Nat):bm X:=dp 8 0 0 0 amg [(0,Ux)] [Ev] n fun m ks=>F.zv.xW n (xe Ux ks 0) (xr Ev ks) m
noncomputable def cx3(X:Type)(n:Nat):Cx X:=bc tab.get [(3,Tryz.f3)] [o4 n,o5 n,o6 n,o7 n,o8 n,o9 n,XI n,o11 n] [(3,15,[Kq X n])] [] [] []
theorem aaa(X:Type)(n:Nat):LO (cx3 X n) 3 Tryz.f3 0 (Kq X n):=fb
theorem z4a(X:Type)(n:Nat):a_ Tryz.prog SW (cx3 X n):=mx (T1 (J Tryz.func3 (by decide))) (J (zb (ok4 n)) (J (zb (ok5 n)) (J (zb (ok6 n)) (J (zb (ok7 n)) (J (zb (ok8 n)) (J (zb (ok9 n)) (J (zb (Ir n)) (T1 (zb (amf n)))))))))) (T1 (bd (T1 (T1 (aaa X n))) trivial)) trivial
abbrev P3:List SV:=[V4,V0,V0]
abbrev R3:RV:=.one .bool
theorem ok3(n:Nat):FO 3 P3 R3 (F.zv n):=zg cg.st (z4a _ n) (d:=8) fun _=>by kernel_rfl
noncomputable def o3(n:Nat):=oc 3 P3 R3 (F.zv n)
end Go.AM
namespace Go.AM
theorem zz{x:Int}(h:0≤x∧x<18446744073709551616):afS .u64 x=x:=by show x % (2 ^ 64)=x;omega
theorem yd(x:Nat):afS .u8 (x:Int)=((x % 256:Nat):Int):=by show(x:Int) % (2 ^ 8)=_;omega
theorem ami(k:Nat):km .u64 (k:Int) (7:Int)=((k / 128:Nat):Int):=by show(k:Int).fdiv (2 ^ 7)=_;rw[Int.fdiv_eq_ediv_of_nonneg _ (by omega)];omega
set_option maxRecDepth 100000 in
theorem aab:∀x:Nat,x<256→(bw .or .u8 (x:Int) (128:Int)).toNat=x % 128+128:=by
 intro x hx;have h:(afT 8 (x:Int)|||afT 8 128).toNat=x % 128+128:=by have:=(by decide:∀y:Fin 256,(afT 8 (y.val:Int)|||afT 8 128).toNat=y.val % 128+128) ⟨x,hx⟩;exact this
 show(afS .u8 ((afT 8 (x:Int)|||afT 8 128).toNat:Int)).toNat=_;rw[h,yd];omega
def bz(n:Nat):List UInt8:=if h:n<128 then[afV n]else afV (n % 128+128)::bz (n / 128)
termination_by n
decreasing_by omega
theorem lS{n:Nat}(h:n<128):bz n=[afV n]:=by rw[bz,dif_pos h]
theorem yO{n:Nat}(h:¬n<128):bz n=afV (n % 128+128)::bz (n / 128):=by rw[bz,dif_neg h]
theorem znj:∀(j n:Nat),n<128 ^ (j+1)→(bz n).length≤j+1
 |0,n,h=>by rw[lS (by omega)];simp
 |j + 1,n,h=>by
  by_cases hn:n<128
  ·rw[lS hn];simp
  ·rw[yO hn];have:=znj j (n / 128) (by rw[afZ]at h;omega);simp only[af3];omega
theorem iI{n:Nat}(h:n<18446744073709551616):(bz n).length≤10:=znj 9 n (by omega)
theorem gD{X:Type}{a b:Nat}(h:a+b≤100000000)(y:Option X):(bif decide ((a+b)*1≤2 ^ 46)&&decide (0<1∧1≤2 ^ 20)then y else none)=y:=by
 have:decide ((a+b)*1≤2 ^ 46)=true:=by simp only[decide_eq_true_eq];omega
 rw[this];rfl
theorem zum(n:Nat)(k0:Int→List UInt8→Nat→Option (List UInt8))(h0:∀(a:Nat) o,a<128→o.length≤100→k0 (a:Int) o o.length=some (o++[afV a])):∀(j k m:Nat)(o:List UInt8),k<128 ^ (j+1)→j<m→o.length+j≤100 →
 F.zi.L2 n k0 m (k:Int) o o.length=some (o++bz k):=by
 intro j;induction j with
 |zero =>intro k m o hk hm ho;obtain⟨m,rfl⟩:∃q,m=q+1:=⟨m - 1,by omega⟩;show F.zi.L2.step n _ _ _ _ _=_;unfold F.zi.L2.step;rw[ze (by omega),h0 k o (by omega) (by omega),lS (n:=k) (by omega)]
 |succ j ih =>
  intro k m o hk hm ho;obtain⟨m,rfl⟩:∃q,m=q+1:=⟨m - 1,by omega⟩;show F.zi.L2.step n _ _ _ _ _=_;unfold F.zi.L2.step;by_cases hs:k<128
  ·rw[ze (by omega),h0 k o hs (by omega),lS hs]
  ·rw[zd (by omega),gD (by omega),ami,yd,aab _ (by omega)];simp only[Nat.beq_refl,cond_true];have:=ih (k / 128) m (o++[afV (k % 256 % 128+128)]) (by rw[afZ]at hk;omega) (by omega) (by simp;omega);rw[this,yO hs,show k % 256 % 128=k % 128 from by omega];simp
theorem jM(n:Nat)(hn:100≤n)(k:Nat)(hk:k<18446744073709551616):F.zi n (k:Int)=some (bz k):=by
 unfold F.zi;rw[show(decide ((0:Int)=0)&&(decide ((0:Int)≤(10:Int))&&decide ((1:Int)*(10:Int)≤281474976710656)&&decide ((10:Int)≤281474976710656))&&true)=true from by decide,cond_true];have := zum n (fun Kr B' aac =>
  bif decide ((B'.length+1)*1≤2 ^ 46)&&decide (0<1∧1≤2 ^ 20)then
   bif Nat.beq aac B'.length then
    ((bif Nat.beq ((B'++([afV ((afS .u8 (Kr))).toNat])).length) ((B'++([afV ((afS .u8 (Kr))).toNat])).length)then some (B'++([afV ((afS .u8 (Kr))).toNat]),([none]:List (Option Nat)))else none).bind fun x=>some x.1)
   else
    none
  else
   none) (fun a o ha ho=>by
  rw[gD (by omega),Nat.beq_refl,cond_true,Nat.beq_refl,cond_true,za,yd];rw[show(((a % 256:Nat):Int)).toNat=a from by omega]) 9 k n [] (by omega) (by omega) (by simp)
 simpa using this
def jC(e:Int):Nat:=if e<0 then(-2*e - 1).toNat else(2*e).toNat
theorem zqr{x:Int}(h:0≤x∧x<18446744073709551616):bw .xor .u64 (IntKind.max .u64) x=18446744073709551615 - x:=by
 have h1:(afT 64 18446744073709551615^^^afT 64 x).toNat=(18446744073709551615 - x).toNat:=by
  have:afT 64 18446744073709551615=BitVec.allOnes 64:=by decide
  rw[this,BitVec.allOnes_xor,BitVec.toNat_not,agD];have:x % (2 ^ 64:Nat)=x:=by omega
  rw[this];omega
 show afS .u64 ((afT 64 18446744073709551615^^^afT 64 x).toNat:Int)=_;rw[h1,zz (by omega)];omega
theorem Kt{x:Int}:gk .u64 x (1:Int)=(x*2) % 18446744073709551616:=rfl
theorem or1{x:Nat}(h:x<9223372036854775808):bw .or .u64 ((2*x:Nat):Int) (1:Int)=((2*x+1:Nat):Int):=by
 have h1:(afT 64 ((2*x:Nat):Int)|||afT 64 1).toNat=2*x+1:=by rw[BitVec.toNat_or,agD,agD];rw[show((((2*x:Nat):Int) % ((2 ^ 64:Nat):Int)).toNat)=2*x from by omega,show(((1:Int) % ((2 ^ 64:Nat):Int)).toNat)=1 from by decide];have:=Nat.two_pow_add_eq_or_of_lt (i:=1) (b:=1) (by decide) x;rw[Nat.pow_one]at this;exact this.symm
 show afS .u64 ((afT 64 ((2*x:Nat):Int)|||afT 64 1).toNat:Int)=_;rw[h1,zz (by omega)]
theorem z4b(n:Nat)(e:Int)(h : -1000≤e∧e≤1000):F.AH n e=some ((jC e:Nat):Int):=by
 unfold F.AH jC;by_cases h0:e<0
 ·rw[zd h0,if_pos h0];have e1:afS .u64 e=e+18446744073709551616:=by show e % (2 ^ 64)=_;omega
  rw[e1,zqr (by omega),Kt,show(18446744073709551615 - (e+18446744073709551616))*2 % 18446744073709551616=((2*(-e - 1).toNat:Nat):Int)from by omega,or1 (by omega)];congr 1;omega
 ·rw[ze h0,if_neg h0,zz (by omega),Kt];congr 1;omega
end Go.AM
namespace Go.AM
theorem znk(x:Int):afS .u32 x=x % 4294967296:=rfl
theorem wrap32{x:Nat}(h:x<4294967296):afS .u32 (x:Int)=(x:Int):=by rw[znk];omega
theorem Ew{x:Nat}(h:x<4294967296):(afT 32 (x:Int)).toNat=x:=by rw[agD];omega
theorem Dh{a b:Nat}(ha:a<4294967296)(hb:b<4294967296):bw .xor .u32 (a:Int) (b:Int)=((a^^^b:Nat):Int):=by show afS .u32 ((afT 32 (a:Int)^^^afT 32 (b:Int)).toNat:Int)=_;rw[BitVec.toNat_xor,Ew ha,Ew hb,wrap32 (agc (n:=32) ha hb)]
theorem aad{a:Nat}(ha:a<4294967296):bw .and .u32 (a:Int) (1:Int)=((a % 2:Nat):Int):=by show afS .u32 ((afT 32 (a:Int)&&&afT 32 ((1:Nat):Int)).toNat:Int)=_;rw[BitVec.toNat_and,Ew ha,Ew (by decide),Nat.and_one_is_mod,wrap32 (by omega)]
theorem aae(a:Nat):km .u32 (a:Int) (1:Int)=((a / 2:Nat):Int):=by show(a:Int).fdiv (2 ^ 1)=_;rw[Int.fdiv_eq_ediv_of_nonneg _ (by omega)];omega
def Ca(x:Nat):Nat:=if x % 2=1 then(x / 2)^^^3988292384 else x / 2
theorem zqs{x:Nat}(h:x<4294967296):Ca x<4294967296:=by
 unfold Ca;split
 ·exact agc (n:=32) (by omega) (by omega)
 ·omega
def bits:Nat→Nat→Nat
 |0,x=>x
 |j+1,x=>bits j (Ca x)
theorem zj5:∀(j:Nat){x:Nat},x<4294967296→bits j x<4294967296
 |0,x,h=>h
 |j+1,x,h=>zj5 j (zqs h)
theorem zun(n:Nat)(k0:Int→Option Int):∀(j x m:Nat),x<4294967296→j≤8→j<m→F.k_.L2 n k0 m (x:Int) ((8 - j:Nat):Int)=k0 (bits j x:Nat):=by
 intro j;induction j with
 |zero =>intro x m hx hj hm;obtain⟨m,rfl⟩:∃q,m=q+1:=⟨m - 1,by omega⟩;show F.k_.L2.step n _ _ _ _=_;unfold F.k_.L2.step;rw[ze (by omega)];rfl
 | succ j ih =>
  intro x m hx hj hm;obtain⟨m,rfl⟩:∃q,m=q+1:=⟨m - 1,by omega⟩;show F.k_.L2.step n _ _ _ _=_;unfold F.k_.L2.step;have e:bw .xor .u32 (km .u32 (x:Int) (1:Int)) (afS .u32 ((bw .and .u32 (x:Int) (1:Int))*(3988292384:Int)))=((Ca x:Nat):Int):=by
   rw[aae,aad hx,show afS .u32 (((x % 2:Nat):Int)*(3988292384:Int))=(((x % 2)*3988292384:Nat):Int)from by rw[znk];omega,Dh (by omega) (by omega)];unfold Ca;split
   ·rename_i h;rw[h,Nat.one_mul]
   ·rw[show x % 2=0 from by omega,Nat.zero_mul,Nat.xor_zero]
  rw[zd (by omega),e,show afS .i64 (((8 - (j+1):Nat):Int)+1)=((8 - j:Nat):Int)from by rw[zh (by omega)];omega];exact ih _ m (zqs hx) (by omega) (by omega)
theorem zr9(n:Nat)(hn:100≤n){x:Nat}(hx:x<4294967296):F.k_ n (x:Int)=some ((bits 8 x:Nat):Int):=by unfold F.k_;exact zun n _ 8 x n hx (by omega) (by omega)
def Ex:Nat→List UInt8→Nat
 |x,[]=>x
 |x,c::l=>Ex (bits 8 (x^^^c.toNat)) l
theorem Ku(c:UInt8):c.toNat<4294967296:=by have:=c.toNat_lt;omega
theorem zqt:∀(l:List UInt8){x:Nat},x<4294967296→Ex x l<4294967296
 |[],x,h=>h
 |c::l,x,h=>zqt l (zj5 8 (agc (n:=32) h (Ku c)))
def zK(l:List UInt8):Nat:=Ex 4294967295 l^^^4294967295
theorem zyx(n:Nat)(hn:100≤n)(k0:Int→Option Int)(l:List UInt8)(hl:l.length≤100000000):∀(r:List UInt8)(i m x:Nat),l.drop i=r→r.length<m→x<4294967296→i≤l.length →
 F.lS.L3 n k0 m (x:Int) l (l.length:Int) (i:Int)=k0 (Ex x r:Nat):=by
 intro r;induction r with
 |nil =>intro i m x hi hm hx GG;obtain⟨m,rfl⟩:∃q,m=q+1:=⟨m - 1,by omega⟩;have:=zm hi;show F.lS.L3.step n _ _ _ _ _ _=_;unfold F.lS.L3.step;rw[ze (by omega)];rfl
 |cons c r ih =>intro i m x hi hm hx GG;obtain⟨m,rfl⟩:∃q,m=q+1:=⟨m - 1,by omega⟩;obtain⟨h1,h2,h3⟩:=zl hi;show F.lS.L3.step n _ _ _ _ _ _=_;unfold F.lS.L3.step;rw[zd (by omega),zp,h2,za,wrap32 (Ku c),Dh hx (Ku c),zr9 n hn (agc (n:=32) hx (Ku c)),za,zi (by omega)];exact ih (i+1) m _ h3 (by simpa using hm) (zj5 8 (agc (n:=32) hx (Ku c))) (by omega)
theorem zk9(n:Nat)(hn:100≤n)(l:List UInt8)(hl:l.length≤100000000)(hm:l.length<n):F.rO n l=some ((zK l:Nat):Int):=by
 unfold F.rO F.lS;have e1:bw .xor .u32 (0:Int) (4294967295:Int)=((4294967295:Nat):Int):=by decide
 rw[e1,show(0:Int)=((0:Nat):Int)from rfl,zyx n hn _ l hl l 0 n 4294967295 (by simp) hm (by omega) (by omega)];rw[show(4294967295:Int)=((4294967295:Nat):Int)from rfl,Dh (zqt l (by omega)) (by omega)];rfl
def oP(l:List UInt8):List UInt8:=[afV (afS .u8 (km .u32 ((zK l:Nat):Int) (24:Int))).toNat,afV (afS .u8 (km .u32 ((zK l:Nat):Int) (16:Int))).toNat,afV (afS .u8 (km .u32 ((zK l:Nat):Int) (8:Int))).toNat,afV (afS .u8 ((zK l:Nat):Int)).toNat]
theorem zhm(n:Nat)(l:List UInt8):F.wJ n ((zK l:Nat):Int)=some (oP l):=rfl
end Go.AM
namespace Go.AM
def ef(b:UInt8):Bool:=decide (48≤b.toNat)&&decide (b.toNat≤57)
def dv(b:UInt8):Nat:=b.toNat - 48
def oQ(a:Nat)(l:List UInt8):Nat:=l.foldl (fun a b=>a*10+dv b) a
theorem zh8(a:Nat):oQ a []=a:=rfl
theorem zla(a:Nat)(b:UInt8)(l:List UInt8):oQ a (b::l)=oQ (a*10+dv b) l:=by unfold oQ;rw[List.foldl_cons]
def val(l:List UInt8):Nat:=oQ 0 l
def cz(l:List UInt8):Prop:=l.all ef=true
theorem nq{b:UInt8}:ef b=true↔48≤b.toNat∧b.toNat≤57:=by simp[ef]
theorem jz{b:UInt8}{l:List UInt8}:cz (b::l)↔ef b=true∧cz l:=by simp[cz]
theorem zt{l m:List UInt8}:cz (l++m)↔cz l∧cz m:=by simp[cz]
theorem k_(k:Nat):cz (afR k 48):=by unfold cz;rw[agK];intro x hx;rw[List.eq_of_mem_replicate hx];rfl
theorem zlb{l:List UInt8}(k:Nat)(h:cz l):cz (l.drop k):=by unfold cz at h ⊢;rw[agK]at h ⊢;exact fun x hx=>h x (List.mem_of_mem_drop hx)
theorem zgk{l:List UInt8}(k:Nat)(h:cz l):cz (l.take k):=by unfold cz at h ⊢;rw[agK]at h ⊢;exact fun x hx=>h x (List.mem_of_mem_take hx)
theorem ML{b:UInt8}(h:ef b=true):dv b<10:=by have:=nq.1 h;unfold dv;omega
theorem znl{a b:UInt8}(h:a.toNat=b.toNat):a=b:=UInt8.toNat_inj.1 h
theorem MM{a b:UInt8}(ha:ef a=true)(hb:ef b=true)(h:dv a=dv b):a=b:=by have h1:=nq.1 ha;have h2:=nq.1 hb;unfold dv at h;exact znl (by omega)
theorem zqu(a:Nat)(l:List UInt8):oQ a l=a*10 ^ l.length+val l:=by
 unfold val;induction l generalizing a with
 |nil=>rw[zh8,zh8];simp
 |cons b l ih =>simp only[zla,af3];rw[ih (a*10+dv b),ih (0*10+dv b),afZ,Nat.add_mul,Nat.zero_mul,Nat.zero_add,afW,agE 10,Nat.add_assoc]
theorem Fj:val []=0:=rfl
theorem la(b:UInt8)(l:List UInt8):val (b::l)=dv b*10 ^ l.length+val l:=by show oQ (0*10+dv b) l=_;rw[zqu,Nat.zero_mul,Nat.zero_add]
theorem MN(l m:List UInt8):val (l++m)=val l*10 ^ m.length+val m:=by
 induction l with
 |nil=>simp[Fj]
 |cons b l ih=>rw[agt,la,la,ih,List.length_append,agZ,Nat.add_mul,afW,Nat.add_assoc]
theorem MO(l:List UInt8)(b:UInt8):val (l++[b])=val l*10+dv b:=by rw[MN,la];simp[Fj]
theorem Kv{l:List UInt8}(h:cz l):val l<10 ^ l.length:=by
 induction l with
 |nil=>simp[Fj]
 |cons b l ih =>obtain⟨h1,h2⟩:=jz.1 h;have:=ih h2;have hd:=ML h1;rw[la,af3,afZ,agE (10 ^ l.length)];have h3:dv b*10 ^ l.length≤9*10 ^ l.length:=Nat.mul_le_mul_right _ (by omega);omega
theorem zsa:dv 48=0:=rfl
theorem zj6(k:Nat):val (afR k 48)=0:=by
 induction k with
 |zero=>rfl
 |succ k ih=>rw[agy,la,ih,zsa];simp
theorem zcn(k:Nat)(l:List UInt8):val (afR k 48++l)=val l:=by rw[MN,zj6];simp
theorem oN(k:Nat)(l:List UInt8):val (l++afR k 48)=val l*10 ^ k:=by rw[MN,zj6];simp
theorem zpm{l:List UInt8}(hd:cz l)(h:val l=0):l=afR l.length 48:=by
 induction l with
 |nil=>rfl
 | cons b l ih =>
  obtain⟨h1,h2⟩:=jz.1 hd;rw[la]at h;have hp:0<10 ^ l.length:=agx (by omega);have h3:dv b=0:=by
   cases hb:dv b with
   |zero=>rfl
   |succ k=>rw[hb,Nat.succ_mul]at h;omega
  rw[af3,agy,←ih h2 (by omega)];rw[MM (a:=b) (b:=48) h1 rfl h3]
theorem z2i{l m:List UInt8}(hl:cz l)(hm:cz m)(hlen:l.length=m.length)(h:val l=val m):l=m:=by
 induction l generalizing m with
 |nil=>cases m with
  |nil=>rfl
  |cons=>simp at hlen
 | cons b l ih=>cases m with
  |nil=>simp at hlen
  |cons c m =>
   obtain⟨h1,h2⟩:=jz.1 hl;obtain⟨h3,h4⟩:=jz.1 hm;have hlen:l.length=m.length:=by simpa using hlen
   rw[la,la,hlen]at h;have b1:=Kv h2;have b2:=Kv h4;rw[hlen]at b1;have hp:0<10 ^ m.length:=agx (by omega);have e:dv b=dv c:=by have q1:=congrArg (· / 10 ^ m.length) h;simp only[agE (dv b),agE (dv c),Nat.mul_add_div hp,agQ b1,agQ b2]at q1;omega
   rw[e]at h;rw[MM h1 h3 e,ih h2 h4 hlen (by omega)]
theorem zuo(k:Nat)(h:k<10):(afV (48+k)).toNat=48+k:=by simp[UInt8.toNat_ofNat'];omega
theorem znm(k:Nat)(h:k<10):ef (afV (48+k))=true:=by rw[nq,zuo k h];omega
theorem z0g(k:Nat)(h:k<10):dv (afV (48+k))=k:=by unfold dv;rw[zuo k h];omega
theorem Fk{u:Nat}(h:u<10):afX u=[afV (48+u)]:=Lib.decDigits_one h
theorem MP{u:Nat}(h:¬u<10):afX u=afX (u / 10)++[afV (48+u % 10)]:=by rw[afX,dif_neg h]
theorem jy(u:Nat):cz (afX u):=by
 induction u using agO with
 |_ u ih =>
  by_cases h:u<10
  ·rw[Fk h,jz];exact⟨znm u h,rfl⟩
  ·rw[MP h,zt,jz];exact⟨ih _ (by omega),znm _ (by omega),rfl⟩
theorem qn(u:Nat):val (afX u)=u:=by
 induction u using agO with
 |_ u ih =>
  by_cases h:u<10
  ·rw[Fk h,la,z0g u h];simp[Fj]
  ·rw[MP h,MO,ih _ (by omega),z0g _ (by omega)];omega
theorem MQ(u:Nat):afX u≠[]:=by
 by_cases h:u<10
 ·rw[Fk h];simp
 ·rw[MP h];simp
theorem zgm(u:Nat):(afX u).length=Lib.nDigits u:=Lib.decDigits_length u
theorem znn{u k:Nat}(hk:0<k)(h:u<10 ^ k):(afX u).length≤k:=by
 rw[zgm];induction k generalizing u with
 |zero=>omega
 | succ k ih =>
  by_cases h1:u<10
  ·rw[Lib.nDigits_small h1];omega
  ·rw[Lib.nDigits_big h1];cases k with
   |zero=>simp at h;omega
   |succ k =>have:=ih (u:=u / 10) (by omega) (by rw[afZ]at h;omega);omega
def Norm(l:List UInt8):Prop:=l≠[]∧(l.head? = some 48→l.length=1)
theorem z2j(u:Nat):Norm (afX u):=by
 refine⟨MQ u,?_⟩;induction u using agO with
 | _ u ih =>
  by_cases h:u<10
  ·rw[Fk h];simp
  ·rw[MP h];intro hh;have hn:=MQ (u / 10);rw[List.head?_append,Option.or_of_isSome (by cases e:afX (u / 10)with|nil=>exact absurd e hn|cons=>rfl)]at hh;have h1:=ih (u / 10) (by omega) hh;have hv:=qn (u / 10);cases e:afX (u / 10)with
   |nil=>exact absurd e hn
   |cons b r =>
    rw[e]at h1 hh hv;have hr:r=[]:=by simpa using h1
    subst hr;have hb:b=48:=by simpa using hh
    subst hb;rw[la,zsa]at hv;simp[Fj]at hv;omega
theorem amx(acc:Nat)(l:List UInt8)(hd:cz l)(ha:acc<18446744073709551616):Lib.parseUint10 acc l=if oQ acc l<18446744073709551616 then .ok (oQ acc l)else .range:=by
 induction l generalizing acc with
 |nil=>rw[zh8,if_pos ha];rfl
 | cons b l ih =>
  obtain⟨h1,h2⟩:=jz.1 hd;have hb:=nq.1 h1;have aan:∀x,x≤oQ x l:=fun x=>by rw[zqu];have:0<10 ^ l.length:=agx (by omega);have:=Nat.le_mul_of_pos_right x this;omega
  have hm:=aan (acc*10+dv b);simp only[Lib.parseUint10,hb,and_self,if_true];rw[zla];generalize hV:oQ (acc*10+dv b) l=V at hm ⊢;unfold dv at hm;by_cases h3:1844674407370955162≤acc
  ·rw[if_pos h3,if_neg (by omega)]
  ·rw[if_neg h3];by_cases h4:18446744073709551616≤acc*10+(b.toNat - 48)
   ·rw[if_pos h4,if_neg (by omega)]
   ·rw[if_neg h4,ih _ h2 (by omega)];have:oQ (acc*10+(b.toNat - 48)) l=V:=hV;rw[this]
theorem zup{l:List UInt8}(hd:cz l)(hn:l≠[]):Lib.atoiAll l=if val l<9223372036854775808 then .ok (val l:Int)else .range:=by
 cases l with
 |nil=>exact absurd rfl hn
 | cons b r =>
  have hb:=nq.1 (jz.1 hd).1;simp only[Lib.atoiAll];rw[if_neg (by omega)];unfold Lib.parseMag;rw[if_neg (by simp),amx 0 _ hd (by omega)];have e:oQ 0 (b::r)=val (b::r):=rfl;rw[e];by_cases h1:val (b::r)<18446744073709551616
  ·rw[if_pos h1];simp only[];by_cases h2:val (b::r)<9223372036854775808
   ·rw[if_pos h2,if_neg (by omega),if_neg (by omega),if_neg (by omega)]
   ·rw[if_neg h2,if_pos (by omega)]
  ·rw[if_neg h1,if_neg (by omega)]
def db:List UInt8→List UInt8
 |[]=>[]
 |b::l=>if db l=[]then(if b=48 then[]else[b])else b::db l
theorem zuq(l:List UInt8)(c:UInt8):∃k,l=agG l c++afR k c∧(∀x,(agG l c).getLast? = some x→x≠c):=by
 have h:=List.takeWhile_append_dropWhile (p:=fun b:UInt8=>b==c) (l:=l.reverse);refine⟨(l.reverse.takeWhile (· == c)).length,?_,?_⟩
 ·unfold agG;have h2:=congrArg List.reverse h;rw[List.reverse_append,List.reverse_reverse]at h2;have h3:(l.reverse.takeWhile (· == c)).reverse=afR (l.reverse.takeWhile (· == c)).length c:=by rw[List.eq_replicate_iff];refine⟨by simp,fun b hb => ?_⟩;have:=agK.1 (List.all_takeWhile (p:=fun b:UInt8=>b==c) (l:=l.reverse)) b (List.mem_reverse.1 hb);simpa using this
  rw[h3]at h2;exact h2.symm
 ·intro x hx;unfold agG at hx;rw[List.getLast?_reverse]at hx;have:=List.head?_dropWhile_not (p:=fun b:UInt8=>b==c) (l:=l.reverse);rw[hx]at this;simpa using this
theorem qM(l:List UInt8):∃k,l=db l++afR k 48∧(∀x,(db l).getLast? = some x→x≠48):=by
 induction l with
 |nil=>exact⟨0,rfl,by simp[db]⟩
 | cons b l ih =>
  obtain⟨k,h1,h2⟩:=ih;unfold db;by_cases h:db l=[]
  ·rw[if_pos h];rw[h,agz]at h1;by_cases hb:b=48
   ·rw[if_pos hb];exact⟨k+1,by rw[agy,←h1,hb];rfl,by simp⟩
   ·rw[if_neg hb];exact⟨k,by rw[←h1];rfl,by simp[hb]⟩
  ·rw[if_neg h];refine⟨k,by rw[agt,←h1],?_⟩;intro x hx;rw[List.getLast?_cons]at hx;cases e:(db l).getLast? with
   |none=>simp at e;exact absurd e h
   |some y =>rw[e]at hx;have hy:=h2 y e;simp at hx;rw[←hx];exact hy
theorem zh9{a b:List UInt8}{c:UInt8}{i j:Nat}(h:a++afR i c=b++afR j c)(ha:∀x,a.getLast? = some x→x≠c)(hb:∀x,b.getLast? = some x→x≠c):a=b:=by
 induction i generalizing j with
 |zero =>
  cases j with
  |zero=>simpa using h
  |succ j =>rw[agv,←agp]at h;simp only[List.replicate_zero,agV]at h;exact absurd rfl (ha c (by rw[h];simp))
 |succ i ih =>
  cases j with
  |zero =>rw[agv,←agp]at h;simp only[List.replicate_zero,agV]at h;exact absurd rfl (hb c (by rw[←h];simp))
  |succ j =>rw[agv,agv,←agp,←agp]at h;exact ih (List.append_inj_left' h rfl)
theorem zlc(l:List UInt8):agG l 48=db l:=by obtain⟨i,h1,h2⟩:=zuq l 48;obtain⟨j,h3,h4⟩:=qM l;exact zh9 (h1.symm.trans h3) h2 h4
theorem zld(l:List UInt8)(k:Nat):db (l++afR k 48)=db l:=by
 obtain⟨i,h1,h2⟩:=qM (l++afR k 48);obtain⟨j,h3,h4⟩:=qM l;refine zh9 (i:=i) (j:=j+k) (c:=48) ?_ h2 h4;rw[←h1]
 conv=>lhs;rw[h3]
 rw[agp,List.replicate_append_replicate]
theorem zno{l:List UInt8}(h:∀x,l.getLast? = some x→x≠48):db l=l:=by obtain⟨j,h3,h4⟩:=qM l;exact(zh9 (i:=0) (j:=j) (c:=48) (by rw[←h3];simp) h h4).symm
theorem Cb(l:List UInt8):(db l).length≤l.length:=by obtain⟨k,h1,_⟩:=qM l;have:=congrArg List.length h1;simp at this;omega
theorem sT{l:List UInt8}(h:cz l):cz (db l):=by obtain⟨k,h1,_⟩:=qM l;rw[h1,zt]at h;exact h.1
theorem Di(l:List UInt8):l=db l++afR (l.length - (db l).length) 48:=by obtain⟨k,h1,_⟩:=qM l;have:=congrArg List.length h1;simp at this;rw[show l.length - (db l).length=k from by omega];exact h1
theorem MR{l:List UInt8}{x:UInt8}(h:(db l).getLast? = some x):x≠48:=by obtain⟨k,_,h2⟩:=qM l;exact h2 x h
theorem zj7{l:List UInt8}(hd:cz l):db l=[]↔val l=0:=by
 constructor
 ·intro h;have:=Di l;rw[h,agz]at this;rw[this,zj6]
 ·intro h;have:=zpm hd h;obtain⟨k,h1,h2⟩:=qM l;rw[this]at h1 ⊢;have:=zld [] l.length;simpa[db]using this
end Go.AM
namespace Go.AM
abbrev Ey:=Bool×Int×Int×Unit
abbrev pX:=Ey×Int×Unit
def eL:Nat:=18446744073709551616
theorem mT:eL=18446744073709551616:=rfl
def gR(neg:Bool)(c0:Nat)(E:Int):pX:=
 if E < -18 then((false,0,0,()),10,())else if c0*10 ^ (E - 18).toNat<eL then((neg,((c0*10 ^ (E - 18).toNat:Nat):Int),(if E≤18 then E else 18),()),0,())else((false,0,0,()),10,())
def A4:pX:=((false,0,0,()),0,())
def eh(neg:Bool)(d:List UInt8)(e:Int):pX:=
 if val d=0 then A4 else gR neg (val (db d)) (e+((d.length - (db d).length:Nat):Int))
theorem z2k(d:List UInt8):val d=val (db d)*10 ^ (d.length - (db d).length):=by have:=congrArg val (Di d);rw[oN]at this;exact this
theorem znp{d:List UInt8}(hd:cz d)(h:val d≠0):val (db d) % 10≠0:=by
 have c_:db d≠[]:=fun hh=>h ((zj7 hd).1 hh);obtain⟨x,hx⟩:∃x,(db d).getLast? = some x:=by
  cases e:(db d).getLast? with
  |none=>simp at e;exact absurd e c_
  |some x=>exact⟨x,rfl⟩
 have amC:=MR hx;obtain⟨ys,hys⟩:=List.getLast?_eq_some_iff.1 hx;have Uy:=sT hd;rw[hys]at Uy ⊢;obtain⟨_,h2⟩:=zt.1 Uy;obtain⟨h3,_⟩:=jz.1 h2;rw[MO];have:=ML h3;have h0:dv x≠0:=fun h0=>amC (MM h3 (b:=48) rfl h0);omega
theorem zpn{a b i j:Nat}(ha:a % 10≠0)(hb:b % 10≠0)(h:a*10 ^ i=b*10 ^ j):a=b∧i=j:=by
 induction i generalizing j with
 |zero =>
  cases j with
  |zero=>simpa using h
  |succ j=>rw[af9,agd,afZ,←afW]at h;omega
 |succ i ih =>
  cases j with
  |zero=>rw[af9,agd,afZ,←afW]at h;omega
  |succ j =>rw[afZ,afZ,←afW,←afW]at h;obtain⟨h1,h2⟩:=ih (Nat.eq_of_mul_eq_mul_right (by omega) h);exact⟨h1,by omega⟩
theorem kh{d:List UInt8}(hd:cz d){c0 z:Nat}(h0:c0 % 10≠0)(hv:val d=c0*10 ^ z)(neg:Bool)(e:Int):eh neg d e=gR neg c0 (e+z):=by
 have c_:val d≠0:=by rw[hv];have:=Nat.mul_pos (show 0<c0 by omega) (agx (n:=z) (show 0<10 by omega));omega
 unfold eh;rw[if_neg c_];obtain⟨h1,h2⟩:=zpn (znp hd c_) h0 ((z2k d).symm.trans hv);rw[h1,h2]
theorem wJ(c:Nat)(h:0<c):∃c0 z,c=c0*10 ^ z∧c0 % 10≠0:=by
 induction c using agO with
 |_ c ih =>
  by_cases h1:c % 10=0
  ·obtain⟨c0,z,h2,h3⟩:=ih (c / 10) (by omega) (by omega);exact⟨c0,z+1,by rw[afZ,←afW,←h2];omega,h3⟩
  ·exact⟨c,0,by simp,h1⟩
theorem zja(neg:Bool){d:List UInt8}(hd:cz d)(k:Nat)(e:Int):eh neg (afR k 48++d) e=eh neg d e:=by
 have hD:cz (afR k 48++d):=zt.2 ⟨k_ _,hd⟩;by_cases h:val d=0
 ·have:val (afR k 48++d)=0:=by rw[zcn,h]
  unfold eh;rw[if_pos h,if_pos this]
 ·obtain⟨c0,z,h1,h2⟩:=wJ (val d) (by omega);rw[kh hd h2 h1,kh hD h2 (by rw[zcn,h1])]
theorem AH(neg:Bool){d:List UInt8}(hd:cz d)(k:Nat)(e:Int):eh neg (d++afR k 48) e=eh neg d (e+k):=by
 have hD:cz (d++afR k 48):=zt.2 ⟨hd,k_ _⟩;by_cases h:val d=0
 ·have:val (d++afR k 48)=0:=by rw[oN,h];simp
  unfold eh;rw[if_pos h,if_pos this]
 ·obtain⟨c0,z,h1,h2⟩:=wJ (val d) (by omega);rw[kh hd h2 h1,kh hD h2 (z:=z+k) (by rw[oN,h1,agZ,afW])];congr 1;omega
theorem znq(n:Nat)(c d:Nat)(hc:c<eL)(hd:d<eL):F.wI n (c:Int) (d:Int)=some ((((c*10+d) % eL:Nat):Int),decide (c*10+d<eL),()):=by
 unfold F.wI O.va;rw[mT]at *;rw[zd (by omega),za];unfold O.vb;rw[show(c:Int).toNat=c from rfl,show(10:Int).toNat=10 from rfl];dsimp only;rw[zd (by omega),za];simp only[Int.toNat_natCast,show(0:Int).toNat=0 from rfl,Nat.add_zero];by_cases h:c*10<18446744073709551616
 ·have e1:((((c*10 / 18446744073709551616:Nat):Int))==0)=true:=by simp;omega
  rw[e1,cond_true];have e2:c*10 % 18446744073709551616=c*10:=Nat.mod_eq_of_lt h;rw[e2];congr 2;congr 1;by_cases h2:c*10+d<18446744073709551616
  ·have:(c*10+d) / 18446744073709551616=0:=agQ h2;simp[h2,this]
  ·have:¬(c*10+d) / 18446744073709551616=0:=by omega
   have e:((((c*10+d) / 18446744073709551616:Nat):Int)==0)=false:=by simp;omega
   rw[e];simp[h2]
 ·have e1:((((c*10 / 18446744073709551616:Nat):Int))==0)=false:=by simp;omega
  rw[e1,cond_false];have:¬c*10+d<18446744073709551616:=by omega
  simp only[this,decide_false];congr 2;omega
theorem zsb(n:Nat)(X:Type)(k0:Bool→Int→Int→Bool→Int→Int→Option X)(neg b:Bool)(x y:Int)(c0:Nat)(h0:c0 % 10≠0):∀(z m:Nat)(e:Int),c0*10 ^ z<eL→-9223372036854775808≤e→e+z≤9223372036854775807→z<m →
 ∃j,j≤z∧F.zh.L3 n k0 m neg ((c0*10 ^ z:Nat):Int) e b x y=k0 neg ((c0*10 ^ j:Nat):Int) (e+z - j) b x y∧(j=0∨18≤e+z - j)∧(e+z - j≤18∨j=z):=by
 intro z;induction z with
 | zero =>
  intro m e hc Ar BN hm;obtain⟨m,rfl⟩:∃q,m=q+1:=⟨m - 1,by omega⟩;refine⟨0,agW _,?_,Or.inl rfl,Or.inr rfl⟩;show F.zh.L3.step n _ k0 _ _ _ _ _ _=_;unfold F.zh.L3.step;have e1:((((c0*10 ^ 0:Nat):Int).tmod 10)==0)=false:=by
   rw[af9,agd];have:¬((c0:Int).tmod 10)=0:=by rw[show((c0:Int).tmod 10)=((c0 % 10:Nat):Int)from rfl];omega
   simpa using this
  rw[e1,cond_false];congr 1;omega
 | succ z ih =>
  intro m e hc Ar BN hm;obtain⟨m,rfl⟩:∃q,m=q+1:=⟨m - 1,by omega⟩;have vo:F.zh.L3 n k0 (m+1) neg ((c0*10 ^ (z+1):Nat):Int) e b x y=F.zh.L3.step n (F.zh.L3 n k0 m) k0 neg ((c0*10 ^ (z+1):Nat):Int) e b x y:=rfl;have hmul:c0*10 ^ (z+1)=c0*10 ^ z*10:=by rw[afZ,afW]
  have e1:((((c0*10 ^ (z+1):Nat):Int).tmod 10)==0)=true:=by
   have:((c0*10 ^ (z+1):Nat):Int).tmod 10=0:=by rw[show(((c0*10 ^ (z+1):Nat):Int).tmod 10)=((c0*10 ^ (z+1) % 10:Nat):Int)from rfl];omega
   simpa using this
  have e2:((c0*10 ^ (z+1):Nat):Int).tdiv 10=((c0*10 ^ z:Nat):Int):=by rw[show(((c0*10 ^ (z+1):Nat):Int).tdiv 10)=((c0*10 ^ (z+1) / 10:Nat):Int)from rfl];omega
  rw[vo];unfold F.zh.L3.step;rw[e1,cond_true];by_cases A5:e<18
  ·rw[zd A5,e2,IntWalk.u64_in _ (by rw[mT]at hc;omega),zh (by omega)];obtain⟨j,j1,j2,j3,j4⟩:=ih m (e+1) (by omega) (by omega) (by omega) (by omega);refine⟨j,by omega,?_,?_,?_⟩
   ·rw[j2];congr 1;omega
   ·rcases j3 with j3|j3
    ·exact Or.inl j3
    ·exact Or.inr (by omega)
   ·rcases j4 with j4|j4
    ·exact Or.inl (by omega)
    ·exact Or.inl (by omega)
  ·rw[ze A5];refine⟨z+1,agW _,?_,Or.inr (by omega),Or.inr rfl⟩;congr 1;omega
theorem zle(n:Nat)(X:Type)(k2:Bool→Int→Int→Bool→Int→Int→Option X)(K:Int→Bool→Int→Int→Option X)(neg b:Bool)(x y:Int):∀(m c d:Nat),0<c→c<eL→eL≤c*10 ^ m→18+(d:Int)≤9223372036854775807 →
 F.zh.L5 n k2 (fun q _ _ _ u v w=>K q u v w) (m+1) neg (c:Int) (18+(d:Int)) b x y=if c*10 ^ d<eL then k2 neg ((c*10 ^ d:Nat):Int) 18 b x y else K 10 false 0 0:=by
 intro m;induction m with
 |zero=>intro c d h1 h2 h3;rw[af9,agd]at h3;omega
 | succ m ih =>
  intro c d h1 h2 h3 h4;have vo:F.zh.L5 n k2 (fun q _ _ _ u v w=>K q u v w) (m+1+1) neg (c:Int) (18+(d:Int)) b x y=F.zh.L5.step n (F.zh.L5 n k2 (fun q _ _ _ u v w=>K q u v w) (m+1)) k2 (fun q _ _ _ u v w=>K q u v w) neg (c:Int) (18+(d:Int)) b x y:=rfl;rw[vo];unfold F.zh.L5.step;cases d with
  |zero =>rw[ze (by omega),af9,agd,if_pos h2];rfl
  | succ d =>
   rw[zd (by omega),show(0:Int)=((0:Nat):Int)from rfl,znq n c 0 h2 (by decide),za];have hp:c*10≤c*10 ^ (d+1):=by rw[afZ,←afW];have:0<10 ^ d:=agx (by omega);have:=Nat.le_mul_of_pos_right c this;omega
   by_cases hf:c*10+0<eL
   ·simp only[hf,decide_true,Bool.not_true,cond_false];rw[zh (by omega),show(18+((d+1:Nat):Int) - 1)=18+(d:Int)from by omega,Nat.mod_eq_of_lt hf];have:=ih (c*10+0) d (by omega) hf (by rw[afZ]at h3;rw[Nat.add_zero,afW,agE 10];exact h3) (by omega);rw[show((0:Nat):Int)=(0:Int)from rfl]at *;rw[this,Nat.add_zero,afW,agE 10,←afZ]
   ·have:¬c*10 ^ (d+1)<eL:=by omega
    simp only[hf,decide_false,Bool.not_false,cond_true];rw[if_neg this]
theorem zpo(n:Nat)(hn:100≤n)(neg:Bool)(c0 z:Nat)(h0:c0 % 10≠0)(hc:c0*10 ^ z<eL)(e:Int)(he : -9223372036854775808≤e∧e≤9223372036854775807) :
 F.zh n (neg,((c0*10 ^ z:Nat):Int),e,())=some (gR neg c0 (e+z)):=by
 have hz:z≤20:=by refine Classical.byContradiction fun hh => ?_;have h1:10 ^ 20≤10 ^ z:=af8 (by omega) (by omega);have h2:=agi (10 ^ z) (show 0<c0 by omega);rw[mT]at hc;omega
 have oA:0<c0*10 ^ z:=Nat.mul_pos (by omega) (agx (by omega));unfold F.zh;have e0:(((c0*10 ^ z:Nat):Int)==0)=false:=by
  have:¬((c0*10 ^ z:Nat):Int)=0:=by omega
  simpa using this
 simp only[e0,cond_false];by_cases zA:9223372036854775807<e+z
 ·
  have A5:¬e<18:=by omega
  obtain⟨m,rfl⟩:∃q,n=q+1:=⟨n - 1,by omega⟩;have hs:∀(k0:Bool→Int→Int→Bool→Int→Int→Option pX),F.zh.L3 (m+1) k0 (m+1) neg ((c0*10 ^ z:Nat):Int) e false 0 0=k0 neg ((c0*10 ^ z:Nat):Int) e false 0 0:=by intro k0;show F.zh.L3.step (m+1) (F.zh.L3 (m+1) k0 m) k0 _ _ _ _ _ _=_;unfold F.zh.L3.step;rw[ze A5];cases(((c0*10 ^ z:Nat):Int).tmod 10==0)<;>rfl
  rw[hs];obtain⟨d,hd⟩:∃d:Nat,e=18+(d:Int):=⟨(e - 18).toNat,by omega⟩;have Dj:eL≤c0*10 ^ z*10 ^ m:=by have h1:10 ^ 20≤10 ^ m:=af8 (by omega) (by omega);have h2:=agi (10 ^ m) oA;rw[mT];omega
  rw[hd,zle (m+1) _ _ (fun q u v w=>some ((u,v,w,()),q,())) neg false 0 0 m _ d oA hc Dj (by omega)];have Uz:∀w,20≤w→¬c0*10 ^ w<eL:=by intro w hw;have h1:10 ^ 20≤10 ^ w:=af8 (by omega) hw;have h2:=agi (10 ^ w) (show 0<c0 by omega);rw[mT];omega
  unfold gR;rw[if_neg (show ¬18+(d:Int)+z < -18 by omega),if_neg (by rw[afW,←agZ];exact Uz _ (by omega)),if_neg (Uz _ (by omega))]
 ·obtain⟨j,j1,j2,j3,j4⟩:=zsb n pX (fun Kw Kx Ky Kz KA KB =>
   F.zh.L5 n
    (fun KC KE Cc amF amG amH =>
     bif decide (Cc<(-18:Int))then
      some (((false,(0:Int),(0:Int),()),(10:Int),()))
     else
      some (((KC,KE,Cc,()),(0:Int),())))
    (fun Cd fJ kP uo ib uq Ce =>some (((ib,uq,Ce,()),Cd,()))) n Kw Kx Ky Kz KA KB) neg false 0 0 c0 h0 z n e hc he.1 (by omega) (by omega)
  refine j2.trans ?_;have BI:c0*10 ^ j<eL:=by have h1:10 ^ j≤10 ^ z:=af8 (by omega) j1;have:=Nat.mul_le_mul_left c0 h1;omega
  have KF:0<c0*10 ^ j:=Nat.mul_pos (by omega) (agx (by omega));obtain⟨m,rfl⟩:∃q,n=q+1:=⟨n - 1,by omega⟩;by_cases hE:18≤e+z - j
  ·obtain⟨d,hd⟩:∃d:Nat,e+z - j=18+(d:Int):=⟨(e+z - j - 18).toNat,by omega⟩;have Dj:eL≤c0*10 ^ j*10 ^ m:=by have h1:10 ^ 20≤10 ^ m:=af8 (by omega) (by omega);have h2:=agi (10 ^ m) KF;rw[mT];omega
   show F.zh.L5 (m+1) _ _ (m+1) neg _ (e+z - j) false 0 0=_;rw[hd,zle (m+1) _ _ (fun q u v w=>some ((u,v,w,()),q,())) neg false 0 0 m _ d KF BI Dj (by omega)];unfold gR;rw[if_neg (show ¬e+z < -18 by omega),afW,←agZ,show j+d=(e+z - 18).toNat from by omega];by_cases hf:c0*10 ^ (e+z - 18).toNat<eL
   ·rw[if_pos hf,if_pos hf,ze (by omega)];congr 3;by_cases hh:e+z≤18
    ·rw[if_pos hh,show e+(z:Int)=18 from by omega]
    ·rw[if_neg hh]
   ·rw[if_neg hf,if_neg hf]
  ·have E2:j=0:=by omega
   subst E2;have DN:∀(k2:Bool→Int→Int→Bool→Int→Int→Option pX)(kr:Int→Bool→Int→Int→Bool→Int→Int→Option pX)(c:Int)(E:Int),¬E>18→F.zh.L5 (m+1) k2 kr (m+1) neg c E false 0 0=k2 neg c E false 0 0:=by intro k2 kr c E hE;show F.zh.L5.step (m+1) (F.zh.L5 (m+1) k2 kr m) k2 kr neg c E false 0 0=_;unfold F.zh.L5.step;rw[ze hE]
   rw[DN _ _ _ _ (by omega)];unfold gR;rw[af9,agd,show(e+(z:Int) - 18).toNat=0 from by omega,af9,agd,show(e+(z:Int) - ((0:Nat):Int))=e+z from by omega];by_cases A5:e+z < -18
   ·rw[zd A5,if_pos A5]
   ·rw[ze A5,if_neg A5,if_pos (by rw[af9,agd]at BI;exact BI),if_pos (by omega)]
theorem MS(n:Nat)(hn:100≤n)(neg:Bool)(c:Nat)(hc:c<eL)(e:Int)(he : -9223372036854775808≤e∧e≤9223372036854775807):F.zh n (neg,(c:Int),e,())=some (eh neg (afX c) e):=by
 by_cases h:c=0
 ·subst h;unfold eh;rw[if_pos (qn 0)];rfl
 ·obtain⟨c0,z,h1,h2⟩:=wJ c (by omega);rw[kh (jy c) h2 (by rw[qn];exact h1)];rw[h1]at hc ⊢;exact zpo n hn neg c0 z h2 hc e he
end Go.AM
namespace Go.AM
def lz(d:List UInt8):List UInt8:=d.dropWhile (· == 48)
theorem znr(d:List UInt8):d=afR (d.length - (lz d).length) 48++lz d:=by
 induction d with
 |nil=>rfl
 | cons b d ih =>
  unfold lz at ih ⊢;by_cases h:b=48
  ·subst h;have e:((48:UInt8)::d).dropWhile (· == 48)=d.dropWhile (· == 48):=by simp[List.dropWhile_cons]
   have hl:(d.dropWhile (· == 48)).length≤d.length:=(List.dropWhile_sublist _).length_le;rw[e,af3,show d.length+1 - (d.dropWhile (· == 48)).length=(d.length - (d.dropWhile (· == 48)).length)+1 from by omega,agy,agt,←ih]
  ·have e:(b::d).dropWhile (· == 48)=b::d:=by simp[List.dropWhile_cons,h]
   rw[e];simp
theorem z4c(d:List UInt8):val (lz d)=val d:=by
 conv=>rhs;rw[znr d]
 rw[zcn]
theorem zqv{d:List UInt8}(h:cz d):cz (lz d):=by rw[znr d,zt]at h;exact h.2
theorem z4q(d:List UInt8):(lz d).length≤d.length:=(List.dropWhile_sublist _).length_le
end Go.AM
