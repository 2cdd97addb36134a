/- Part 5 of a proof by the abstract machine. -/
import Derived.Test.YtonhplejlfnkoaaGreatDoorQ4
import Derived.Shelf.SlSortCmp.WholeK
import Derived.Deep.RegionHeld2
import Derived.Lib.Walk
import Derived.LoopN
import Derived.Lib.Builder
import Derived.WalkKit
import Derived.BigCall
import Derived.BigGuard
import Derived.Test.YtonhplejlfnkoaaGreatDoorProg
import Derived.KernelRfl
import Derived.Test.YtonhplejlfnkoaaGreatDoorRows
import Derived.Shelf.Spec.BitsCarry
import Derived.Lib.ItoaNum
import Derived.Lib.ItoaLen
import Derived.Lib.AtoiAll
import Derived.Lib.TrimByte
set_option linter.unusedVariables false
set_option linter.unusedSimpArgs false
namespace Go.Proofs
open Go.Shelf Go.RowKit Go.Sort
set_option maxHeartbeats 1000000 in
theorem Tryz.isNaN_str (s:ByteArray) (w:World):Calls Tryz.prog 194 #[.string s] w fun e w'=>e = .returned (.bool false)∧w'=w:=by
 have mixed:Tryz.prog.follows .mixedOrders:=by kernel_rfl
 go_enter Tryz.func194,Tryz.ntmps194
 go_wp2
 go_ret
 exact ⟨rfl,rfl⟩
theorem Tryz.gtr_str (x y:ByteArray) (w:World):(Go.binOp .gtr 9 (.string x) (.string y)).run Tryz.prog w = .ok (.bool (!(Op.bytesLess x.toList y.toList||x.toList==y.toList))) w:=by simp [Go.binOp,Op.stringOp]
set_option maxHeartbeats 2000000 in
theorem Tryz.compare_str (x y:ByteArray) (w:World):Calls Tryz.prog 139 #[.string x,.string y] w fun e w'=>e = .returned (.int .i64 (if Op.bytesLess x.toList y.toList then -1 else if Op.bytesLess x.toList y.toList||x.toList==y.toList then 0 else 1))∧w'=w:=by
 have mixed:Tryz.prog.follows .mixedOrders:=by kernel_rfl
 go_enter Tryz.func139,Tryz.ntmps139
 go_wp2_with (go_at_call 194; refine (Tryz.isNaN_str _ _).mono ?_; rintro e w' ⟨rfl,rfl⟩)
 all_goals try (
  rw [Tryz.gtr_str]
  simp only [Result.andThen]
  rw [Oper.upon_value]
  generalize hq:(Op.bytesLess x.toList y.toList||x.toList==y.toList)=q
  cases q
  all_goals (simp only [Bool.not_true,Bool.not_false]; go_wp2))
 all_goals (go_ret; refine ⟨?_,rfl⟩; simp_all)
set_option maxHeartbeats 4000000 in
theorem Tryz.or_ints (b:Nat) (p q:Int) (w:World) (h0:w.cell? ⟨b,0,none⟩=some (.int .i64 p)) (h1:w.cell? ⟨b,1,none⟩=some (.int .i64 q)):Calls Tryz.prog 138 #[.slice (some ⟨b,0,none⟩) 2 2] w fun e w'=>e = .returned (.int .i64 (if p=0 then q else p))∧w'=w:=by
 have mixed:Tryz.prog.follows .mixedOrders:=by kernel_rfl
 go_enter Tryz.func138,Tryz.ntmps138
 go_wp2
 refine wp_loop_rounds 3 ?_
 rw [rounds_succ]
 by_cases hp:p=0
 · subst hp
   go_wp2
   rw [rounds_succ]
   by_cases hq:q=0
   · subst hq
     go_wp2
     rw [rounds_succ]
     go_wp2
     go_ret
     exact ⟨rfl,rfl⟩
   · go_wp2
     all_goals first | (go_ret; refine ⟨?_,rfl⟩; simp_all) | (exfalso; simp_all)
 · go_wp2
   all_goals first | (go_ret; refine ⟨?_,rfl⟩; simp_all) | (exfalso; simp_all)
set_option maxHeartbeats 8000000 in
set_option maxRecDepth 100000 in
theorem Tryz.cmpTag (x y:AM.TagD) (w:World):Calls Tryz.prog 137 #[.agg (AM.encT x).toArray,.agg (AM.encT y).toArray] w fun e w'=>e = .returned (.int .i64 (AM.cmpL x y))∧∃ q os,w'=grow (w.drewN q) os:=by
 have mixed:Tryz.prog.follows .mixedOrders:=by kernel_rfl
 obtain ⟨k1,v1⟩:=x
 obtain ⟨k2,v2⟩:=y
 show Calls Tryz.prog 137 #[.agg #[.string ⟨k1.toArray⟩,.string ⟨v1.toArray⟩],.agg #[.string ⟨k2.toArray⟩,.string ⟨v2.toArray⟩]] w _
 have hb:∀ l:List UInt8,(⟨l.toArray⟩:ByteArray).toList=l:=fun l=>by rw [AM.ba_toList]
 have c1:∀ W,Calls Tryz.prog 139 #[.string ⟨k1.toArray⟩,.string ⟨k2.toArray⟩] W fun e w'=>e = .returned (.int .i64 (AM.cmpS k1 k2))∧w'=W:=fun W=>by
  have h:=Tryz.compare_str ⟨k1.toArray⟩ ⟨k2.toArray⟩ W
  simp only [hb] at h
  exact h
 have c2:∀ W,Calls Tryz.prog 139 #[.string ⟨v1.toArray⟩,.string ⟨v2.toArray⟩] W fun e w'=>e = .returned (.int .i64 (AM.cmpS v1 v2))∧w'=W:=fun W=>by
  have h:=Tryz.compare_str ⟨v1.toArray⟩ ⟨v2.toArray⟩ W
  simp only [hb] at h
  exact h
 unfold AM.cmpL
 simp only
 clear hb
 generalize AM.cmpS k1 k2=r1 at c1 ⊢
 generalize AM.cmpS v1 v2=r2 at c2 ⊢
 generalize (⟨k1.toArray⟩:ByteArray)=k1 at c1 ⊢
 generalize (⟨k2.toArray⟩:ByteArray)=k2 at c1 ⊢
 generalize (⟨v1.toArray⟩:ByteArray)=v1 at c2 ⊢
 generalize (⟨v2.toArray⟩:ByteArray)=v2 at c2 ⊢
 have c3:∀ (W:World) (b:Nat),W.heap.size=b→Calls Tryz.prog 138 #[.slice (some ⟨b,0,none⟩) 2 2] (W.alloc (.cells #[.int .i64 r1,.int .i64 r2] 3)).drew fun e w'=>e = .returned (.int .i64 (if r1=0 then r2 else r1))∧w'=(W.alloc (.cells #[.int .i64 r1,.int .i64 r2] 3)).drew:=by
  rintro W b rfl
  have hh:(W.alloc (.cells #[.int .i64 r1,.int .i64 r2] 3)).drew.heap[W.heap.size]? = some (.cells #[.int .i64 r1,.int .i64 r2] 3 (0,0)):=World.alloc_heap_new W _
  exact Tryz.or_ints _ r1 r2 _ (by rw [Lib.cell_of_heap hh]; rfl) (by rw [Lib.cell_of_heap hh]; rfl)
 generalize (if r1=0 then r2 else r1)=rr at c3 ⊢
 go_enter Tryz.func137,Tryz.ntmps137
 go_wp2
 go_region_held2 (fun W=>W.cell? ⟨w.heap.size,0,none⟩=some (.string k1)∧W.cell? ⟨w.heap.size,1,none⟩=some (.string v1)∧W.cell? ⟨w.heap.size+1,0,none⟩=some (.string k2)∧W.cell? ⟨w.heap.size+1,1,none⟩=some (.string v2)) (go_keep) (first
  | (go_at_call_of 139 (Value.string k1); refine (c1 _).mono ?_; rintro e w' ⟨rfl,rfl⟩)
  | (go_at_call_of 139 (Value.string v1); refine (c2 _).mono ?_; rintro e w' ⟨rfl,rfl⟩)
  | (go_at_call 138; refine (c3 _ _ (by simp)).mono ?_; rintro e w' ⟨rfl,rfl⟩))
 go_wp2
 go_ret
 exact ⟨rfl,1,_,by rw [alloc_eq_grow,alloc_eq_grow,alloc_eq_grow,grow_grow,grow_grow]; rfl⟩
set_option maxHeartbeats 4000000 in
set_option maxRecDepth 100000 in
theorem Tryz.sort_none (A:Option Addr) (w:World):Calls Tryz.prog 136 #[.slice A 0 0,.func (.func 137) #[] #[]] w fun e w'=>e = .returned (.tuple #[])∧w.grownBy w' none:=by
 have mixed:Tryz.prog.follows .mixedOrders:=by kernel_rfl
 go_enter Tryz.func136,Tryz.ntmps136
 go_wp2
 refine wp_loop_rounds 1 ?_
 rw [rounds_succ]
 go_wp2
 refine wp_loop_rounds 1 ?_
 rw [rounds_succ]
 go_wp2
 go_end0
 all_goals try simp only []
 go_wp2
 try simp only [Exit.inBlock,Exit.then]
 refine bodyPost_ret (results_none rfl _ _ _) rfl ?_
 try simp only []
 go_at_K
 go_wp2
 go_end0
 exact ⟨rfl,⟨rfl,rfl,rfl,Nat.le_refl _,fun _ _ _=>rfl⟩⟩
theorem zm6:AM.PrOK Tryz.prog (fun _=>True) 136 (.sort AM.TyTag 137 AM.sortTags):=by
 refine AM.sort_ok (AM.enters Tryz.func136 (by kernel_rfl) (by decide)) (fun q cap d w hH hq hd => ?_) Tryz.sort_none
 have eg:∀ args w,(callFunc 137 args).run Tryz.prog w = .ok (.enter 137 args) w:=enters_of Tryz.func137 (by kernel_rfl) rfl
 exact AnyQ.slices_SortFunc Tryz.laySort 2 Tryz.isAgg76 Tryz.sizeOf76 AM.encT (fun _=>rfl) (fun x v hv=>by simp [AM.encT] at hv; rcases hv with rfl | rfl<;>rfl) AM.cmpL AM.swoT 137 #[] q 0 cap d w eg (fun _ _ _ _ x y=>Tryz.cmpTag x y _) hH hq hd
end Go.Proofs
set_option linter.unusedVariables false
set_option linter.unusedSimpArgs false
namespace Go.AM
open Go.Proofs Go.RowKit
set_option maxHeartbeats 6400000 in
set_option maxRecDepth 100000 in
theorem zwt (w:World):Calls Tryz.prog 55 #[] w fun e w'=>e = .returned (.map (some w.heap.size))∧w'=w.alloc (.map (fmEnts [(1,104),(2,105),(3,106),(4,105)]) 4):=by
 have mixed:Tryz.prog.follows .mixedOrders:=by kernel_rfl
 have h0:(Instr.makeMap 92 none).run Tryz.prog w = .ok (.map (some w.heap.size)) (w.alloc (.map #[] 0)):=rfl
 have up:=fun es c key v h=>zev (P:=Tryz.prog) (t:=92) (k:=3) (e:=90) Tryz.underlying92 Tryz.underlying3 w es c key v h
 have h1:=up #[] 0 1 (.func (.func 104) #[] #[]) (by simp)
 have h2:=up #[⟨.int .i64 1,.func (.func 104) #[] #[],0⟩] 1 2 (.func (.func 105) #[] #[]) (by simp)
 have h3:=up #[⟨.int .i64 1,.func (.func 104) #[] #[],0⟩,⟨.int .i64 2,.func (.func 105) #[] #[],1⟩] 2 3 (.func (.func 106) #[] #[]) (by simp)
 have h4:=up #[⟨.int .i64 1,.func (.func 104) #[] #[],0⟩,⟨.int .i64 2,.func (.func 105) #[] #[],1⟩,⟨.int .i64 3,.func (.func 106) #[] #[],2⟩] 3 4 (.func (.func 105) #[] #[]) (by simp)
 clear up
 simp only [List.push_toArray,List.nil_append,List.cons_append] at h1 h2 h3 h4
 go_enter Tryz.func55,Tryz.ntmps55
 go_wp2
 go_ret
 exact ⟨rfl,rfl⟩
theorem zwu:PrOK Tryz.prog (fun _=>True) 55 (.fmts [(1,104),(2,105),(3,106),(4,105)]):=fun w _ =>
 z7 (enters Tryz.func55 (by kernel_rfl) (by decide)) ((zwt w).mono fun e w' ⟨h1,h2⟩=>⟨_,h1,rfl,4,h2⟩)
end Go.AM
set_option linter.unusedVariables false
set_option linter.unusedSimpArgs false
namespace Go.Proofs
open Go.RowKit Go.AM
set_option maxHeartbeats 6400000 in
set_option maxRecDepth 100000 in
theorem Tryz.words_call (w:World):Calls Tryz.prog 165 #[] w fun e w'=>e = .returned (.map (some w.heap.size))∧w'=w.alloc (.map wordsMap 4):=by
 have mixed:Tryz.prog.follows .mixedOrders:=by kernel_rfl
 have h0:(Instr.makeMap 192 none).run Tryz.prog w = .ok (.map (some w.heap.size)) (w.alloc (.map #[] 0)):=rfl
 have up:=fun es c key v h=>zev (P:=Tryz.prog) (t:=192) (k:=3) (e:=9) Tryz.underlying192 Tryz.underlying3 w es c key v h
 have h1:=up #[] 0 1 (.string ⟨#[99]⟩) (by simp)
 have h2:=up #[⟨.int .i64 1,.string ⟨#[99]⟩,0⟩] 1 2 (.string ⟨#[103]⟩) (by simp)
 have h3:=up #[⟨.int .i64 1,.string ⟨#[99]⟩,0⟩,⟨.int .i64 2,.string ⟨#[103]⟩,1⟩] 2 3 (.string ⟨#[109,115]⟩) (by simp)
 have h4:=up #[⟨.int .i64 1,.string ⟨#[99]⟩,0⟩,⟨.int .i64 2,.string ⟨#[103]⟩,1⟩,⟨.int .i64 3,.string ⟨#[109,115]⟩,2⟩] 3 4 (.string ⟨#[104]⟩) (by simp)
 clear up
 simp only [List.push_toArray,List.nil_append,List.cons_append] at h1 h2 h3 h4
 go_enter Tryz.func165,Tryz.ntmps165
 go_wp2
 go_ret
 exact ⟨rfl,rfl⟩
set_option maxHeartbeats 6400000 in
set_option maxRecDepth 100000 in
theorem Tryz.statsd_Word (k:Int) (w:World):Calls Tryz.prog 109 #[.int .i64 k] w fun e w'=>e = .returned (.tuple #[.string ⟨(wordL k).toArray⟩,.int .i64 (wordE k)])∧Below w.heap.size w w':=by
 have mixed:Tryz.prog.follows .mixedOrders:=by kernel_rfl
 have e1:∀ args w,(callFunc 165 args).run Tryz.prog w = .ok (.enter 165 args) w:=enters_of Tryz.func165 (by kernel_rfl) rfl
 have hz:∀ w',(zeroValue 9).run Tryz.prog w' = .ok (.string ⟨#[]⟩) w':=fun w'=>by rfl
 obtain ⟨v,b,hv,hb,hvb,hl⟩:∃ (v:List UInt8) (b:Bool),v=wordL k∧b=decide (k=1∨k=2∨k=3∨k=4)∧(b=false→v=[])∧(Instr.lookup 192 (.map (some w.heap.size)) (.int .i64 k) true).run Tryz.prog (w.alloc (.map wordsMap 4)) = .ok (.tuple #[.string ⟨v.toArray⟩,.bool b]) (w.alloc (.map wordsMap 4)):=by
  by_cases h1:k=1
  · subst h1; exact ⟨[99],true,rfl,rfl,(fun h=>by cases h),zcp (P:=Tryz.prog) (k:=3) (e:=9) Tryz.underlying192 Tryz.underlying3 w wordsMap 4 1 (i:=0) rfl rfl⟩
  by_cases h2:k=2
  · subst h2; exact ⟨[103],true,rfl,rfl,(fun h=>by cases h),zcp (P:=Tryz.prog) (k:=3) (e:=9) Tryz.underlying192 Tryz.underlying3 w wordsMap 4 2 (i:=1) rfl rfl⟩
  by_cases h3:k=3
  · subst h3; exact ⟨[109,115],true,rfl,rfl,(fun h=>by cases h),zcp (P:=Tryz.prog) (k:=3) (e:=9) Tryz.underlying192 Tryz.underlying3 w wordsMap 4 3 (i:=2) rfl rfl⟩
  by_cases h4:k=4
  · subst h4; exact ⟨[104],true,rfl,rfl,(fun h=>by cases h),zcp (P:=Tryz.prog) (k:=3) (e:=9) Tryz.underlying192 Tryz.underlying3 w wordsMap 4 4 (i:=3) rfl rfl⟩
  refine ⟨[],false,?_,?_,(fun _=>rfl),zj3 (P:=Tryz.prog) (k:=3) (e:=9) Tryz.underlying192 Tryz.underlying3 w wordsMap 4 k ?_ hz⟩
  · unfold wordL; rw [if_neg h1,if_neg h2,if_neg h3,if_neg h4]
  · simp [h1,h2,h3,h4]
  · intro x hx
    simp only [wordsMap,List.mem_cons,List.mem_nil_iff,or_false] at hx
    rcases hx with rfl | rfl | rfl | rfl
    · exact ⟨1,rfl,Ne.symm h1⟩
    · exact ⟨2,rfl,Ne.symm h2⟩
    · exact ⟨3,rfl,Ne.symm h3⟩
    · exact ⟨4,rfl,Ne.symm h4⟩
 have hE:wordE k=if b then 0 else 16:=by subst hb; unfold wordE; simp
 rw [← hv,hE]
 clear hv hE hb hz
 cases b
 · obtain rfl:=hvb rfl
   go_enter Tryz.func109,Tryz.ntmps109
   go_wp2_with (go_at_fn 165; refine (Tryz.words_call _).mono ?_; rintro e w' ⟨rfl,rfl⟩)
   all_goals go_ret2
   all_goals exact ⟨rfl,zjk _⟩
 · go_enter Tryz.func109,Tryz.ntmps109
   go_wp2_with (go_at_fn 165; refine (Tryz.words_call _).mono ?_; rintro e w' ⟨rfl,rfl⟩)
   all_goals go_ret2
   all_goals exact ⟨rfl,zjk _⟩
end Go.Proofs
set_option linter.unusedVariables false
set_option maxRecDepth 100000
namespace Go.AM
open Go.Proofs Go.RowKit
open Go.Proofs.YtonhplejlfnkoaaGreatDoor
def SI:World→Prop:=LaidI Tryz.prog Rows.textDecodesRow.laid
def SW:World→Prop:=WOf SI
theorem swTab {w : World} (h : SW w) : Lib.TabIs Tryz.prog w (Rows.textDecodesRow.laid.getD 2 ("", .nil)).1 .u64 Lib.pow10Tab := by
 obtain ⟨w0,h1,h2,h3⟩:=h
 exact zy9 (zs6 h1 (by kernel_rfl) 2 (by kernel_rfl) (g:=1) (by kernel_rfl) (by kernel_rfl) Tryz.underlying266 Tryz.underlying77 (by kernel_rfl) (by kernel_rfl)) h2 h3
theorem swErrS {w:World} (h:SW w):∃ ev,w.cell? ⟨6,0,none⟩=some ev∧(ev = .nilIface∨∃ te pe,ev = .iface te pe):=by
 obtain ⟨w0,h1,h2,h3⟩:=h
 obtain ⟨ev,a,b⟩:=zhu h1 (by kernel_rfl) 5 rfl (g:=6) (by kernel_rfl) (by kernel_rfl) Tryz.underlying150
 exact ⟨ev,zn3 a h3,b⟩
theorem swErrR {w:World} (h:SW w):∃ ev,w.cell? ⟨7,0,none⟩=some ev∧(ev = .nilIface∨∃ te pe,ev = .iface te pe):=by
 obtain ⟨w0,h1,h2,h3⟩:=h
 obtain ⟨ev,a,b⟩:=zhu h1 (by kernel_rfl) 4 rfl (g:=7) (by kernel_rfl) (by kernel_rfl) Tryz.underlying150
 exact ⟨ev,zn3 a h3,b⟩
theorem mixed:Tryz.prog.follows .mixedOrders=true:=by kernel_rfl
abbrev V0:SV:=.int .i64
abbrev V1:SV:=.int .u8
abbrev V2:SV:=.agg [V0,V0]
abbrev Y0:Ty:=.int .u64
abbrev Y1:Ty:=.int .i64
abbrev Y2:Ty:=.agg [.bool,Y0,Y1]
abbrev V3:SV:=.sl Y2 .unk
abbrev Y3:Ty:=.agg [.str,.str]
abbrev V4:SV:=.sl Y3 .unk
abbrev V5:SV:=.agg [.str,V0,V3,V0,V4,V0]
abbrev V6:SV:=.int .u64
abbrev V7:SV:=.agg [.bool,V6,V0]
abbrev V8:SV:=.agg [V1,V1]
abbrev V9:SV:=.sl .str .unk
abbrev V10:SV:=.agg [.str,.str,.str,.str,.str,.str]
abbrev V11:SV:=.agg [.str,.str]
abbrev V12:SV:=.agg [.str,(.const (.fn 184 [(.ref 2 0)] [])),.str,(.const (.fn 185 [(.ref 2 0)] [])),.str,(.const (.fn 186 [(.ref 2 0)] []))]
abbrev Y4:Ty:=.sl Y2
abbrev Y5:Ty:=.sl Y3
abbrev Y6:Ty:=.agg [.str,Y1,Y4,Y1,Y5,Y1]
abbrev V13:SV:=.sl .u8 .unk
abbrev V14:SV:=.sl Y6 .unk
abbrev Y7:Ty:=.agg [Y1,.str]
abbrev V15:SV:=.sl Y7 .unk
abbrev V16:SV:=.agg [(.fn 97 [V5] []),V0,(.fn 98 [V5] []),V0,(.fn 99 [V5] []),V0,(.fn 100 [V5] []),V0,(.fn 101 [V5] []),V0,(.fn 102 [V5] []),V0]
abbrev Y8:Ty:=.sl Y6
abbrev Y9:Ty:=.agg [Y1,Y1]
abbrev Y10:Ty:=.agg [(.sl .u8),(.sl .u8)]
abbrev Y11:Ty:=.agg [Y6]
abbrev Y12:Ty:=.sl Y7
abbrev Y13:Ty:=.agg [Y6,Y1,Y1]
abbrev Y14:Ty:=.agg [Y1,.str,.bool]
abbrev Y15:Ty:=.agg [.u8,.u8]
abbrev Y16:Ty:=.agg [.str,.str,.str,.str,.str,.str]
def tab:Tree TI:=.node 111 (.node 55 (.node 33 (.node 23 (.node 5 (.node 4 (.one 3 ⟨.int .i64,1,8,false,[(.int .i64 (0:Int))],some Y1,false⟩) (.one 4 ⟨.bool,1,1,false,[(.bool false)],some .bool,false⟩)) (.node 9 (.one 5 ⟨.int .u8,1,1,false,[(.int .u8 (0:Int))],some .u8,false⟩) (.node 22 (.one 9 ⟨.str,1,16,false,[(.str [])],some .str,false⟩) (.one 22 ⟨.slice 5,1,24,false,[.sl .u8 [] .full],some (.sl .u8),false⟩)))) (.node 25 (.node 24 (.one 23 ⟨.func,1,8,false,[.nilfn],none,false⟩) (.one 24 ⟨.slice 36,1,24,false,[.sl Y6 [] .full],some Y8,false⟩)) (.node 27 (.one 25 ⟨.int .i64,1,8,false,[(.int .i64 (0:Int))],some Y1,false⟩) (.node 28 (.one 27 ⟨.struct [(0,25),(1,3)],2,16,true,[(.int .i64 (0:Int)),(.int .i64 (0:Int))],some Y9,true⟩) (.one 28 ⟨.other,1,0,false,[.any],none,false⟩))))) (.node 42 (.node 36 (.node 34 (.one 33 ⟨.slice 79,1,24,false,[.sl Y2 [] .full],some Y4,false⟩) (.one 34 ⟨.slice 76,1,24,false,[.sl Y3 [] .full],some Y5,false⟩)) (.node 38 (.one 36 ⟨.struct [(0,9),(1,3),(2,33),(3,3),(4,34),(5,3)],6,88,true,[(.str []),(.int .i64 (0:Int)),.sl Y2 [] .full,(.int .i64 (0:Int)),.sl Y3 [] .full,(.int .i64 (0:Int))],some Y6,false⟩) (.node 40 (.one 38 ⟨.other,1,0,false,[.any],none,false⟩) (.one 40 ⟨.other,1,0,false,[.any],none,false⟩)))) (.node 49 (.node 44 (.one 42 ⟨.func,1,8,false,[.nilfn],none,false⟩) (.node 45 (.one 44 ⟨.other,1,0,false,[.any],none,false⟩) (.one 45 ⟨.func,1,8,false,[.nilfn],none,false⟩))) (.node 52 (.one 49 ⟨.arr 2 22,2,48,true,[.sl .u8 [] .full,.sl .u8 [] .full],some Y10,false⟩) (.node 53 (.one 52 ⟨.slice 9,1,24,false,[.sl .str [] .full],some (.sl .str),false⟩) (.one 53 ⟨.other,1,0,false,[.any],none,false⟩)))))) (.node 77 (.node 67 (.node 61 (.node 59 (.one 55 ⟨.other,1,0,false,[.any],none,false⟩) (.one 59 ⟨.other,1,0,false,[.any],none,false⟩)) (.node 64 (.one 61 ⟨.other,1,0,false,[.any],none,false⟩) (.node 65 (.one 64 ⟨.func,1,8,false,[.nilfn],none,false⟩) (.one 65 ⟨.func,1,8,false,[.nilfn],none,false⟩)))) (.node 71 (.node 68 (.one 67 ⟨.struct [(0,64),(1,65)],2,16,true,[.nilfn,.nilfn],none,false⟩) (.one 68 ⟨.other,1,0,false,[.any],none,false⟩)) (.node 73 (.one 71 ⟨.func,1,8,false,[.nilfn],none,false⟩) (.node 76 (.one 73 ⟨.other,1,0,false,[.any],none,false⟩) (.one 76 ⟨.struct [(0,9),(1,9)],2,32,true,[(.str []),(.str [])],some Y3,true⟩))))) (.node 92 (.node 80 (.node 79 (.one 77 ⟨.int .u64,1,8,false,[(.int .u64 (0:Int))],some Y0,false⟩) (.one 79 ⟨.struct [(0,4),(1,77),(2,3)],3,24,true,[(.bool false),(.int .u64 (0:Int)),(.int .i64 (0:Int))],some Y2,true⟩)) (.node 90 (.one 80 ⟨.other,1,0,false,[.any],none,false⟩) (.node 91 (.one 90 ⟨.func,1,8,false,[.nilfn],none,false⟩) (.one 91 ⟨.other,1,0,false,[.any],none,false⟩)))) (.node 102 (.node 96 (.one 92 ⟨.map 3 90,1,8,false,[.any],none,false⟩) (.node 97 (.one 96 ⟨.struct [(0,36)],6,88,true,[(.str []),(.int .i64 (0:Int)),.sl Y2 [] .full,(.int .i64 (0:Int)),.sl Y3 [] .full,(.int .i64 (0:Int))],some Y11,false⟩) (.one 97 ⟨.func,1,8,false,[.nilfn],none,false⟩))) (.node 105 (.one 102 ⟨.other,1,0,false,[.any],none,false⟩) (.node 107 (.one 105 ⟨.other,1,0,false,[.any],none,false⟩) (.one 107 ⟨.slice 111,1,24,false,[.sl Y7 [] .full],some Y12,false⟩))))))) (.node 161 (.node 139 (.node 131 (.node 114 (.node 112 (.one 111 ⟨.struct [(0,3),(1,9)],2,24,true,[(.int .i64 (0:Int)),(.str [])],some Y7,true⟩) (.one 112 ⟨.ptr,1,8,false,[.nilp],none,false⟩)) (.node 127 (.one 114 ⟨.other,1,0,false,[.any],none,false⟩) (.node 130 (.one 127 ⟨.func,1,8,false,[.nilfn],none,false⟩) (.one 130 ⟨.struct [(0,36)],6,88,true,[(.str []),(.int .i64 (0:Int)),.sl Y2 [] .full,(.int .i64 (0:Int)),.sl Y3 [] .full,(.int .i64 (0:Int))],some Y11,false⟩)))) (.node 133 (.node 132 (.one 131 ⟨.struct [(0,23),(1,25)],2,16,true,[.nilfn,(.int .i64 (0:Int))],none,false⟩) (.one 132 ⟨.arr 6 131,12,96,true,[.nilfn,(.int .i64 (0:Int)),.nilfn,(.int .i64 (0:Int)),.nilfn,(.int .i64 (0:Int)),.nilfn,(.int .i64 (0:Int)),.nilfn,(.int .i64 (0:Int)),.nilfn,(.int .i64 (0:Int))],none,false⟩)) (.node 134 (.one 133 ⟨.slice 4,1,24,false,[.sl .bool [] .full],some (.sl .bool),false⟩) (.node 136 (.one 134 ⟨.other,1,0,false,[.any],none,false⟩) (.one 136 ⟨.func,1,8,false,[.nilfn],none,false⟩))))) (.node 150 (.node 142 (.node 141 (.one 139 ⟨.other,1,0,false,[.any],none,false⟩) (.one 141 ⟨.func,1,8,false,[.nilfn],none,false⟩)) (.node 146 (.one 142 ⟨.other,1,0,false,[.any],none,false⟩) (.node 148 (.one 146 ⟨.ptr,1,8,false,[.nilp],none,false⟩) (.one 148 ⟨.struct [(0,146),(1,22)],2,32,true,[.nilp,.sl .u8 [] .full],none,false⟩)))) (.node 154 (.node 151 (.one 150 ⟨.iface,1,16,false,[(.err false)],none,false⟩) (.node 153 (.one 151 ⟨.other,1,0,false,[.any],none,false⟩) (.one 153 ⟨.func,1,8,false,[.nilfn],none,false⟩))) (.node 157 (.one 154 ⟨.other,1,0,false,[.any],none,false⟩) (.node 159 (.one 157 ⟨.ptr,1,8,false,[.nilp],none,false⟩) (.one 159 ⟨.struct [(0,36),(6,3),(7,3)],8,104,true,[(.str []),(.int .i64 (0:Int)),.sl Y2 [] .full,(.int .i64 (0:Int)),.sl Y3 [] .full,(.int .i64 (0:Int)),(.int .i64 (0:Int)),(.int .i64 (0:Int))],some Y13,false⟩)))))) (.node 190 (.node 174 (.node 164 (.node 162 (.one 161 ⟨.func,1,8,false,[.nilfn],none,false⟩) (.one 162 ⟨.slice 161,1,24,false,[.nils],none,false⟩)) (.node 167 (.one 164 ⟨.func,1,8,false,[.nilfn],none,false⟩) (.node 169 (.one 167 ⟨.struct [(0,3),(1,9),(2,4)],3,32,true,[(.int .i64 (0:Int)),(.str []),(.bool false)],some Y14,true⟩) (.one 169 ⟨.other,1,0,false,[.any],none,false⟩)))) (.node 183 (.node 177 (.one 174 ⟨.func,1,8,false,[.nilfn],none,false⟩) (.node 179 (.one 177 ⟨.other,1,0,false,[.any],none,false⟩) (.one 179 ⟨.other,1,0,false,[.any],none,false⟩))) (.node 185 (.one 183 ⟨.func,1,8,false,[.nilfn],none,false⟩) (.node 187 (.one 185 ⟨.func,1,8,false,[.nilfn],none,false⟩) (.one 187 ⟨.func,1,8,false,[.nilfn],none,false⟩))))) (.node 208 (.node 200 (.node 198 (.one 190 ⟨.func,1,8,false,[.nilfn],none,false⟩) (.one 198 ⟨.arr 2 5,2,2,true,[(.int .u8 (0:Int)),(.int .u8 (0:Int))],some Y15,false⟩)) (.node 201 (.one 200 ⟨.func,1,8,false,[.nilfn],none,false⟩) (.node 207 (.one 201 ⟨.arr 6 9,6,96,true,[(.str []),(.str []),(.str []),(.str []),(.str []),(.str [])],some Y16,false⟩) (.one 207 ⟨.func,1,8,false,[.nilfn],none,false⟩)))) (.node 211 (.node 209 (.one 208 ⟨.struct [(0,9),(1,207)],2,24,true,[(.str []),.nilfn],none,false⟩) (.node 210 (.one 209 ⟨.arr 3 208,6,72,true,[(.str []),.nilfn,(.str []),.nilfn,(.str []),.nilfn],none,false⟩) (.one 210 ⟨.func,1,8,false,[.nilfn],none,false⟩))) (.node 221 (.one 211 ⟨.other,1,0,false,[.any],none,false⟩) (.node 222 (.one 221 ⟨.func,1,8,false,[.nilfn],none,false⟩) (.one 222 ⟨.other,1,0,false,[.any],none,false⟩)))))))
theorem zza:tab.all (tiOK Tryz.prog)=true:=by kernel_rfl
abbrev FO (g:Nat) (ps:List SV) (rv:RV) (f:arrL ps (Option rv.den)):Prop:=FnOK Tryz.prog SW g ps rv (appL ps f)
theorem mx {X:Type} {fns:List (Nat×Func)} {C:List (Nat×(List AV→Option Entry))} {loops:List (Nat×Nat×List (LoopI X))} {rfs:List (Nat×Nat×Func×List Nat×Nat)}
 {conf : List (Nat × Nat × List (Nat × Nat))} {unroll : List (Nat × Nat × Nat)} {cuts : List (Nat × Nat × List (CutI X))} {rows : List (Nat × Ty)} {pr : List (Nat × Pr)} {bt : Option (Nat × Nat)} {keep : List Nat} (hf : AllT (fun p => Tryz.prog.funcs[p.1]? = some p.2 ∧ p.2.name ≠ "runtime.NumGoroutine") fns)
 (hC:AllT (fun p=>OrcOK Tryz.prog SW p.1 p.2) C) (hc:AllT (fun p=>okC (mkCx tab.get fns C loops rfs conf unroll cuts rows pr bt keep) p.1 p.2.ntmps (p.2.body.getD .skip)) fns) (hr:AllT (fun q=>Tryz.prog.funcs[q.1]? = some q.2.2.1∧lkp fns q.1=some q.2.2.1) rfs)
 (hp:AllT (fun p=>PrOK Tryz.prog SW p.1 p.2) pr:=by exact trivial):CxOK Tryz.prog SW (mkCx tab.get fns C loops rfs conf unroll cuts rows pr bt keep):=zwl mixed (tabOK zza) hf hC hc hr hp
abbrev P208:List SV:=[.str,.str]
abbrev R208:RV:=.one V0
theorem ok208 (n:Nat):FO 208 P208 R208 (O.index1 n):=zqx (enters Tryz.func208 (by kernel_rfl) (by decide)) Tryz.stringslite_Index_one n
noncomputable def o208 (n:Nat):=oc 208 P208 R208 (O.index1 n)
noncomputable def cx170 (X:Type) (n:Nat):Cx X:=mkCx tab.get [(170,Tryz.f170)] [o208 n] [] [] [] []
theorem zs7 (X:Type) (n:Nat):CxOK Tryz.prog SW (cx170 X n):=mx (T1 (J Tryz.func170 (by decide))) (T1 (zb (ok208 n))) (T1 (okc trivial trivial)) trivial
abbrev P170:List SV:=[.str,.str]
abbrev R170:RV:=.many [.str,.str,.bool]
theorem ok170 (n:Nat):FO 170 P170 R170 (F.zbp n):=zf WOf.st (zs7 _ n) (d:=8) fun _=>by kernel_rfl
noncomputable def o170 (n:Nat):=oc 170 P170 R170 (F.zbp n)
noncomputable def cx113 (X:Type) (n:Nat):Cx X:=mkCx tab.get [(113,Tryz.f113)] [o170 n] [] [] [] []
theorem zs8 (X:Type) (n:Nat):CxOK Tryz.prog SW (cx113 X n):=mx (T1 (J Tryz.func113 (by decide))) (T1 (zb (ok170 n))) (T1 (okc trivial trivial)) trivial
abbrev P113:List SV:=[.str,.str]
abbrev R113:RV:=.many [.str,.str,.bool]
theorem ok113 (n:Nat):FO 113 P113 R113 (F.zap n):=zf WOf.st (zs8 _ n) (d:=8) fun _=>by kernel_rfl
noncomputable def o113 (n:Nat):=oc 113 P113 R113 (F.zap n)
noncomputable def cx209 (X:Type) (n:Nat):Cx X:=mkCx tab.get [(209,Tryz.f209)] [] [] [] [] []
theorem zs9 (X:Type) (n:Nat):CxOK Tryz.prog SW (cx209 X n):=mx (T1 (J Tryz.func209 (by decide))) trivial (T1 (okc trivial trivial)) trivial
abbrev P209:List SV:=[V0]
abbrev R209:RV:=.one .bool
theorem ok209 (n:Nat):FO 209 P209 R209 (F.zcp n):=zf WOf.st (zs9 _ n) (d:=8) fun _=>by kernel_rfl
noncomputable def o209 (n:Nat):=oc 209 P209 R209 (F.zcp n)
noncomputable def cx246 (X:Type) (n:Nat):Cx X:=mkCx tab.get [(246,Tryz.f246)] [] [] [] [] []
theorem zta (X:Type) (n:Nat):CxOK Tryz.prog SW (cx246 X n):=mx (T1 (J Tryz.func246 (by decide))) trivial (T1 (okc trivial trivial)) trivial
abbrev P246:List SV:=[V1,V1,V1]
abbrev R246:RV:=.one .bool
theorem ok246 (n:Nat):FO 246 P246 R246 (F.zav n):=zf WOf.st (zta _ n) (d:=8) fun _=>by kernel_rfl
noncomputable def o246 (n:Nat):=oc 246 P246 R246 (F.zav n)
noncomputable def cx210 (X:Type) (n:Nat):Cx X:=mkCx tab.get [(210,Tryz.f210)] [o246 n] [] [] [] []
theorem ztb (X:Type) (n:Nat):CxOK Tryz.prog SW (cx210 X n):=mx (T1 (J Tryz.func210 (by decide))) (T1 (zb (ok246 n))) (T1 (okc trivial trivial)) trivial
abbrev P210:List SV:=[V0,V1]
abbrev R210:RV:=.one .bool
theorem ok210 (n:Nat):FO 210 P210 R210 (F.zcs n):=zf WOf.st (ztb _ n) (d:=8) fun _=>by kernel_rfl
noncomputable def o210 (n:Nat):=oc 210 P210 R210 (F.zcs n)
def qh1:Shape:=⟨[(0,V0),(1,.str),(11,V0),(12,V0)],[],[],[],[],0,0,0⟩
def qe1_0:Shape:=⟨[],[],[],[],[],0,0,0⟩
def qe1_r:Shape:=⟨[(4,V0),(5,V0)],[],[],[],[],0,0,0⟩
noncomputable def ql1 (X:Type) (n:Nat):LoopI X:=mkLi 8 0 0 0 qh1 [(0,qe1_0)] [qe1_r] n fun m ks=>F.zaw.L4 n (fun _=>xe qe1_0 ks 0) (xr qe1_r ks) m
noncomputable def cx171 (X:Type) (n:Nat):Cx X:=mkCx tab.get [(171,Tryz.f171)] [o209 n,o210 n] [(171,4,[ql1 X n])] [] [] []
theorem qo1 (X:Type) (n:Nat):LO (cx171 X n) 171 Tryz.f171 0 (ql1 X n):=lok
theorem ztc (X:Type) (n:Nat):CxOK Tryz.prog SW (cx171 X n):=mx (T1 (J Tryz.func171 (by decide))) (J (zb (ok209 n)) (T1 (zb (ok210 n)))) (T1 (okc (T1 (T1 (qo1 X n))) trivial)) trivial
abbrev P171:List SV:=[V0,.str]
abbrev R171:RV:=.many [V0,V0]
theorem ok171 (n:Nat):FO 171 P171 R171 (F.zaw n):=zf WOf.st (ztc _ n) (d:=8) fun _=>by kernel_rfl
noncomputable def o171 (n:Nat):=oc 171 P171 R171 (F.zaw n)
noncomputable def cx114 (X:Type) (n:Nat):Cx X:=mkCx tab.get [(114,Tryz.f114)] [o171 n] [] [] [] []
theorem ztd (X:Type) (n:Nat):CxOK Tryz.prog SW (cx114 X n):=mx (T1 (J Tryz.func114 (by decide))) (T1 (zb (ok171 n))) (T1 (okc trivial trivial)) trivial
abbrev P114:List SV:=[V0,.str,V0,V0]
abbrev R114:RV:=.one V2
theorem ok114 (n:Nat):FO 114 P114 R114 (F.za5 n):=zf WOf.st (ztd _ n) (d:=8) fun _=>by kernel_rfl
noncomputable def o114 (n:Nat):=oc 114 P114 R114 (F.za5 n)
noncomputable def cx115 (X:Type) (n:Nat):Cx X:=mkCx tab.get [(115,Tryz.f115)] [] [] [] [] []
theorem zte (X:Type) (n:Nat):CxOK Tryz.prog SW (cx115 X n):=mx (T1 (J Tryz.func115 (by decide))) trivial (T1 (okc trivial trivial)) trivial
abbrev P115:List SV:=[V0,V0]
abbrev R115:RV:=.many [V5,V2]
theorem ok115 (n:Nat):FO 115 P115 R115 (F.zaz n):=zf WOf.st (zte _ n) (d:=8) fun _=>by kernel_rfl
noncomputable def o115 (n:Nat):=oc 115 P115 R115 (F.zaz n)
abbrev P190:List SV:=[V6,V6]
abbrev R190:RV:=.many [V6,V6]
theorem ok190 (n:Nat):FO 190 P190 R190 (O.mul64 n):=zs4 (enters Tryz.func190 (by kernel_rfl) (by decide)) Tryz.bits_Mul64 n
noncomputable def o190 (n:Nat):=oc 190 P190 R190 (O.mul64 n)
abbrev P191:List SV:=[V6,V6,V6]
abbrev R191:RV:=.many [V6,V6]
theorem ok191 (n:Nat):FO 191 P191 R191 (O.add64 n):=zs5 (fun x y c hx hy hc w=>by rw [run_callFunc_extern Tryz.func191 (by kernel_rfl) (by kernel_rfl) (by kernel_rfl) (e:=Go.add64Entry) (by kernel_rfl),Go.run_add64 x y c (by omega) (by omega) (by omega) (by omega)]; simp only [Result.andThen]; congr 5<;>omega) n
noncomputable def o191 (n:Nat):=oc 191 P191 R191 (O.add64 n)
noncomputable def cx134 (X:Type) (n:Nat):Cx X:=mkCx tab.get [(134,Tryz.f134)] [o190 n,o191 n] [] [] [] []
theorem ztf (X:Type) (n:Nat):CxOK Tryz.prog SW (cx134 X n):=mx (T1 (J Tryz.func134 (by decide))) (J (zb (ok190 n)) (T1 (zb (ok191 n)))) (T1 (okc trivial trivial)) trivial
abbrev P134:List SV:=[V6,V6]
abbrev R134:RV:=.many [V6,.bool]
theorem ok134 (n:Nat):FO 134 P134 R134 (F.zcj n):=zf WOf.st (ztf _ n) (d:=8) fun _=>by kernel_rfl
noncomputable def o134 (n:Nat):=oc 134 P134 R134 (F.zcj n)
def qh2:Shape:=⟨[(1,(.const (.ref 0 0))),(2,(.const (.ref 1 0)))],[[.bool,V6,V0],[.bool,V6,V0]],[],[],[],2,0,0⟩
def qe2_0:Shape:=⟨[(1,(.const (.ref 0 0))),(2,(.const (.ref 1 0)))],[[.bool,V6,V0],[.bool,V6,V0]],[],[],[],2,0,0⟩
noncomputable def ql2 (X:Type) (n:Nat):LoopI X:=mkLi 8 0 0 0 qh2 [(0,qe2_0)] [] n fun m ks=>F.zf.L3 n (xe qe2_0 ks 0) m
def qh3:Shape:=⟨[(1,(.const (.ref 0 0))),(2,(.const (.ref 1 0)))],[[.bool,V6,V0],[.bool,V6,V0]],[],[],[],2,0,0⟩
def qe3_2:Shape:=⟨[(1,(.const (.ref 0 0))),(2,(.const (.ref 1 0)))],[[.bool,V6,V0],[.bool,V6,V0]],[],[],[],2,0,0⟩
def qe3_r:Shape:=⟨[(2,(.const (.ref 1 0))),(3,V0)],[[.bool,V6,V0],[.bool,V6,V0]],[],[],[],2,0,0⟩
noncomputable def ql3 (X:Type) (n:Nat):LoopI X:=mkLi 8 0 0 0 qh3 [(2,qe3_2)] [qe3_r] n fun m ks=>F.zf.L5 n (xe qe3_2 ks 2) (xr qe3_r ks) m
noncomputable def cx67 (X:Type) (n:Nat):Cx X:=mkCx tab.get [(67,Tryz.f67)] [o134 n] [(67,3,[ql2 X n]),(67,5,[ql3 X n])] [] [] []
theorem qo2 (X:Type) (n:Nat):LO (cx67 X n) 67 Tryz.f67 0 (ql2 X n):=lok
theorem qo3 (X:Type) (n:Nat):LO (cx67 X n) 67 Tryz.f67 1 (ql3 X n):=lok
theorem zwv (X:Type) (n:Nat):CxOK Tryz.prog SW (cx67 X n):=mx (T1 (J Tryz.func67 (by decide))) (T1 (zb (ok134 n))) (T1 (okc (J (T1 (qo2 X n)) (T1 (T1 (qo3 X n)))) trivial)) trivial
abbrev P67:List SV:=[V7]
abbrev R67:RV:=.many [V7,V0]
theorem ok67 (n:Nat):FO 67 P67 R67 (F.zf n):=zf WOf.st (zwv _ n) (d:=8) fun _=>by kernel_rfl
noncomputable def o67 (n:Nat):=oc 67 P67 R67 (F.zf n)
abbrev P169:List SV:=[.str,.str]
abbrev R169:RV:=.one .str
theorem ok169 (n:Nat):FO 169 P169 R169 (O.trimR n):=zs2 (enters Tryz.func169 (by kernel_rfl) (by decide)) Tryz.strings_TrimRight_one n
noncomputable def o169 (n:Nat):=oc 169 P169 R169 (O.trimR n)
noncomputable def cx175 (X:Type) (n:Nat):Cx X:=mkCx tab.get [(175,Tryz.f175)] [] [] [] [] []
theorem ztg (X:Type) (n:Nat):CxOK Tryz.prog SW (cx175 X n):=mx (T1 (J Tryz.func175 (by decide))) trivial (T1 (okc trivial trivial)) trivial
abbrev P175:List SV:=[.str,.str]
abbrev R175:RV:=.one .bool
theorem ok175 (n:Nat):FO 175 P175 R175 (F.zao n):=zf WOf.st (ztg _ n) (d:=8) fun _=>by kernel_rfl
noncomputable def o175 (n:Nat):=oc 175 P175 R175 (F.zao n)
noncomputable def cx118 (X:Type) (n:Nat):Cx X:=mkCx tab.get [(118,Tryz.f118)] [o175 n] [] [] [] []
theorem zth (X:Type) (n:Nat):CxOK Tryz.prog SW (cx118 X n):=mx (T1 (J Tryz.func118 (by decide))) (T1 (zb (ok175 n))) (T1 (okc trivial trivial)) trivial
abbrev P118:List SV:=[.str,.str]
abbrev R118:RV:=.one .bool
theorem ok118 (n:Nat):FO 118 P118 R118 (F.zai n):=zf WOf.st (zth _ n) (d:=8) fun _=>by kernel_rfl
noncomputable def o118 (n:Nat):=oc 118 P118 R118 (F.zai n)
def qh4:Shape:=⟨[(0,(.const (.ref 2 0))),(1,(.const (.ref 0 0))),(3,V0)],[[.str],[V0,V0],[V0]],[],[],[],3,0,0⟩
def qe4_0:Shape:=⟨[(0,(.const (.ref 2 0))),(3,V0)],[[.str],[V0,V0],[V0]],[],[],[],3,0,0⟩
noncomputable def ql4 (X:Type) (n:Nat):LoopI X:=mkLi 7 3 0 0 qh4 [(0,qe4_0)] [] n fun m ks=>F.zaq.L2_dec_look_1 n (xe qe4_0 ks 0) m
noncomputable def cx172 (X:Type) (n:Nat):Cx X:=mkCx tab.get [(172,Tryz.f172),(211,Tryz.f211)] [o118 n] [(211,2,[ql4 X n])] [] [] []
theorem qo4 (X:Type) (n:Nat):LO (cx172 X n) 211 Tryz.f211 0 (ql4 X n):=lok
theorem zti (X:Type) (n:Nat):CxOK Tryz.prog SW (cx172 X n):=mx (J (J Tryz.func172 (by decide)) (T1 (J Tryz.func211 (by decide)))) (T1 (zb (ok118 n))) (J (okc trivial trivial) (T1 (okc (T1 (T1 (qo4 X n))) trivial))) trivial
abbrev P172:List SV:=[.str]
abbrev R172:RV:=.one V2
theorem ok172 (n:Nat):FO 172 P172 R172 (F.zaq n):=zf WOf.st (zti _ n) (d:=8) fun _=>by kernel_rfl
noncomputable def o172 (n:Nat):=oc 172 P172 R172 (F.zaq n)
noncomputable def cx212 (X:Type) (n:Nat):Cx X:=mkCx tab.get [(212,Tryz.f212)] [o175 n] [] [] [] []
theorem ztj (X:Type) (n:Nat):CxOK Tryz.prog SW (cx212 X n):=mx (T1 (J Tryz.func212 (by decide))) (T1 (zb (ok175 n))) (T1 (okc trivial trivial)) trivial
abbrev P212:List SV:=[.str,.str]
abbrev R212:RV:=.many [.str,.bool]
theorem ok212 (n:Nat):FO 212 P212 R212 (F.za7 n):=zf WOf.st (ztj _ n) (d:=8) fun _=>by kernel_rfl
noncomputable def o212 (n:Nat):=oc 212 P212 R212 (F.za7 n)
noncomputable def cx173 (X:Type) (n:Nat):Cx X:=mkCx tab.get [(173,Tryz.f173)] [o212 n] [] [] [] []
theorem ztk (X:Type) (n:Nat):CxOK Tryz.prog SW (cx173 X n):=mx (T1 (J Tryz.func173 (by decide))) (T1 (zb (ok212 n))) (T1 (okc trivial trivial)) trivial
abbrev P173:List SV:=[.str,.str]
abbrev R173:RV:=.many [.str,.bool]
theorem ok173 (n:Nat):FO 173 P173 R173 (F.zaj n):=zf WOf.st (ztk _ n) (d:=8) fun _=>by kernel_rfl
noncomputable def o173 (n:Nat):=oc 173 P173 R173 (F.zaj n)
abbrev P174:List SV:=[.str,.str]
abbrev R174:RV:=.one .str
theorem ok174 (n:Nat):FO 174 P174 R174 (O.trimL n):=zs3 (enters Tryz.func174 (by kernel_rfl) (by decide)) Tryz.strings_TrimLeft_one n
noncomputable def o174 (n:Nat):=oc 174 P174 R174 (O.trimL n)
def qh5:Shape:=⟨[(2,(.const (.ref 0 0))),(3,(.const (.ref 1 0))),(10,.str),(11,(.const (.ref 3 0))),(66,V0),(67,V0)],[[.bool,V6,V0],[V0,V0],[V0,V0],[.bool,V6,V0]],[],[],[],4,0,0⟩
def qe5_0:Shape:=⟨[(2,(.const (.ref 0 0))),(3,(.const (.ref 1 0))),(11,(.const (.ref 3 0)))],[[.bool,V6,V0],[V0,V0],[V0,V0],[.bool,V6,V0]],[],[],[],4,0,0⟩
noncomputable def ql5 (X:Type) (n:Nat):LoopI X:=mkLi 8 0 0 0 qh5 [(0,qe5_0)] [] n fun m ks=>F.zah.L14 n (xe qe5_0 ks 0) m
noncomputable def cx116 (X:Type) (n:Nat):Cx X:=mkCx tab.get [(116,Tryz.f116)] [o67 n,o113 n,o134 n,o169 n,o172 n,o173 n,o174 n] [(116,14,[ql5 X n])] [] [(116,3,[(1,2)])] []
theorem qo5 (X:Type) (n:Nat):LO (cx116 X n) 116 Tryz.f116 0 (ql5 X n):=lok
theorem ztl (X:Type) (n:Nat):CxOK Tryz.prog SW (cx116 X n):=mx (T1 (J Tryz.func116 (by decide))) (J (zb (ok67 n)) (J (zb (ok113 n)) (J (zb (ok134 n)) (J (zb (ok169 n)) (J (zb (ok172 n)) (J (zb (ok173 n)) (T1 (zb (ok174 n))))))))) (T1 (okc (T1 (T1 (qo5 X n))) trivial)) trivial
abbrev P116:List SV:=[.str]
abbrev R116:RV:=.many [V7,V2]
theorem ok116 (n:Nat):FO 116 P116 R116 (F.zah n):=zf WOf.st (ztl _ n) (d:=8) fun _=>by kernel_rfl
noncomputable def o116 (n:Nat):=oc 116 P116 R116 (F.zah n)
abbrev P109:List SV:=[V0]
abbrev R109:RV:=.many [.str,V0]
theorem ok109 (n:Nat):FO 109 P109 R109 (O.word n):=zws (enters Tryz.func109 (by kernel_rfl) (by decide)) Tryz.statsd_Word n
noncomputable def o109 (n:Nat):=oc 109 P109 R109 (O.word n)
def qh6:Shape:=⟨[(0,.str),(4,V0)],[],[],[],[],0,0,0⟩
def qe6_0:Shape:=⟨[],[],[],[],[],0,0,0⟩
def qe6_r:Shape:=⟨[(2,V0),(3,V0)],[],[],[],[],0,0,0⟩
noncomputable def ql6 (X:Type) (n:Nat):LoopI X:=mkLi 8 0 0 0 qh6 [(0,qe6_0)] [qe6_r] n fun m ks=>F.zaf.L2 n (fun _=>xe qe6_0 ks 0) (xr qe6_r ks) m
noncomputable def cx117 (X:Type) (n:Nat):Cx X:=mkCx tab.get [(117,Tryz.f117)] [o109 n] [(117,2,[ql6 X n])] [] [] []
theorem qo6 (X:Type) (n:Nat):LO (cx117 X n) 117 Tryz.f117 0 (ql6 X n):=lok
theorem ztm (X:Type) (n:Nat):CxOK Tryz.prog SW (cx117 X n):=mx (T1 (J Tryz.func117 (by decide))) (T1 (zb (ok109 n))) (T1 (okc (T1 (T1 (qo6 X n))) trivial)) trivial
abbrev P117:List SV:=[.str]
abbrev R117:RV:=.many [V0,V0]
theorem ok117 (n:Nat):FO 117 P117 R117 (F.zaf n):=zf WOf.st (ztm _ n) (d:=8) fun _=>by kernel_rfl
noncomputable def o117 (n:Nat):=oc 117 P117 R117 (F.zaf n)
noncomputable def cx176 (X:Type) (n:Nat):Cx X:=mkCx tab.get [(176,Tryz.f176)] [] [] [] [] []
theorem ztn (X:Type) (n:Nat):CxOK Tryz.prog SW (cx176 X n):=mx (T1 (J Tryz.func176 (by decide))) trivial (T1 (okc trivial trivial)) trivial
abbrev P176:List SV:=[V0,V0]
abbrev R176:RV:=.many [V0,V2]
theorem ok176 (n:Nat):FO 176 P176 R176 (F.zar n):=zf WOf.st (ztn _ n) (d:=8) fun _=>by kernel_rfl
noncomputable def o176 (n:Nat):=oc 176 P176 R176 (F.zar n)
def qh7:Shape:=⟨[(0,.str),(3,(.const (.ref 0 0))),(4,(.const (.ref 1 0))),(16,V8),(17,V0)],[[V0,V0],[V0,V0]],[],[],[],2,0,0⟩
def qe7_0:Shape:=⟨[(0,.str),(3,(.const (.ref 0 0))),(4,(.const (.ref 1 0)))],[[V0,V0],[V0,V0]],[],[],[],2,0,0⟩
noncomputable def ql7 (X:Type) (n:Nat):LoopI X:=mkLi 8 0 0 0 qh7 [(0,qe7_0)] [] n fun m ks=>F.zw.L5 n (xe qe7_0 ks 0) m
def qh8:Shape:=⟨[(3,(.const (.ref 0 0))),(7,.str),(9,(.const (.ref 3 0))),(10,(.const (.fn 177 [] [(.ref 3 0)]))),(81,V0)],[[V0,V0],[V0,V0],[V0,V0],[V0]],[],[],[],4,0,0⟩
def qe8_3:Shape:=⟨[(3,(.const (.ref 0 0))),(9,(.const (.ref 3 0)))],[[V0,V0],[V0,V0],[V0,V0],[V0]],[],[],[],4,0,0⟩
noncomputable def ql8 (X:Type) (n:Nat):LoopI X:=mkLi 8 0 0 0 qh8 [(3,qe8_3)] [] n fun m ks=>F.zw.L23 n (xe qe8_3 ks 3) m
noncomputable def cx119 (X:Type) (n:Nat):Cx X:=mkCx tab.get [(119,Tryz.f119),(177,Tryz.f177)] [o114 n,o176 n] [(119,5,[ql7 X n]),(119,23,[ql8 X n])] [] [] []
theorem qo7 (X:Type) (n:Nat):LO (cx119 X n) 119 Tryz.f119 0 (ql7 X n):=lok
theorem qo8 (X:Type) (n:Nat):LO (cx119 X n) 119 Tryz.f119 1 (ql8 X n):=lok
theorem zto (X:Type) (n:Nat):CxOK Tryz.prog SW (cx119 X n):=mx (J (J Tryz.func119 (by decide)) (T1 (J Tryz.func177 (by decide)))) (J (zb (ok114 n)) (T1 (zb (ok176 n)))) (J (okc (J (T1 (qo7 X n)) (T1 (T1 (qo8 X n)))) trivial) (T1 (okc trivial trivial))) trivial
abbrev P119:List SV:=[.str]
abbrev R119:RV:=.many [V0,V2]
theorem ok119 (n:Nat):FO 119 P119 R119 (F.zw n):=zf WOf.st (zto _ n) (d:=8) fun _=>by kernel_rfl
noncomputable def o119 (n:Nat):=oc 119 P119 R119 (F.zw n)
def qh9:Shape:=⟨[(2,(.const (.ref 1 0))),(3,(.const (.ref 2 0))),(4,(.const (.ref 3 0))),(6,(.const (.ref 4 0))),(9,.bool),(19,V0),(141,.bool)],[[.str],[.str,V0,(.sl Y2 (.own 0)),V0,(.sl Y3 (.own 1)),V0],[V0,V0],[V0],[.str,V0,(.sl Y2 (.own 2)),V0,(.sl Y3 (.own 3)),V0]],[true,true,true,true],[],[],5,0,0⟩
def qe9_r:Shape:=⟨[(2,(.const (.ref 1 0))),(3,(.const (.ref 2 0)))],[[.str],[.str,V0,V3,V0,V4,V0],[V0,V0]],[],[],[],3,0,0⟩
def qe9_n:Shape:=⟨[(2,(.const (.ref 1 0))),(3,(.const (.ref 2 0))),(4,(.const (.ref 3 0))),(6,(.const (.ref 4 0))),(9,.bool)],[[.str],[.str,V0,(.sl Y2 (.own 0)),V0,(.sl Y3 (.own 1)),V0],[V0,V0],[V0],[.str,V0,(.sl Y2 (.own 2)),V0,(.sl Y3 (.own 3)),V0]],[true,true,true,true],[],[],5,0,0⟩
noncomputable def ql9 (X:Type) (n:Nat):CutI X:=mkCi 8 0 0 0 qh9 [qe9_n] [] [qe9_r] fun ks=>F.zb.C30 n (xr qe9_r ks) (xn qe9_n ks)
def qh10:Shape:=⟨[(2,(.const (.ref 1 0))),(3,(.const (.ref 2 0))),(4,(.const (.ref 3 0))),(6,(.const (.ref 4 0))),(9,.bool)],[[.str],[.str,V0,(.sl Y2 (.own 0)),V0,(.sl Y3 (.own 1)),V0],[V0,V0],[V0],[.str,V0,(.sl Y2 (.own 2)),V0,(.sl Y3 (.own 3)),V0]],[true,true,true,true],[],[],5,0,0⟩
def qe10_r:Shape:=⟨[(2,(.const (.ref 1 0))),(3,(.const (.ref 2 0)))],[[.str],[.str,V0,V3,V0,V4,V0],[V0,V0]],[],[],[],3,0,0⟩
noncomputable def ql10 (X:Type) (n:Nat):CutI X:=mkCi 8 0 0 0 qh10 [] [] [qe10_r] fun ks=>F.zb.C31 n (xr qe10_r ks)
def qh11:Shape:=⟨[(2,(.const (.ref 1 0))),(3,(.const (.ref 2 0))),(4,(.const (.ref 3 0))),(6,(.const (.ref 4 0))),(9,.bool),(13,(.const (.ref 6 0))),(16,V0),(18,.str),(19,V0)],[[.str],[.str,V0,(.sl Y2 (.own 0)),V0,(.sl Y3 (.own 1)),V0],[V0,V0],[V0],[.str,V0,(.sl Y2 (.own 2)),V0,(.sl Y3 (.own 3)),V0],[.bool,V6,V0],[V0,V0]],[true,true,true,true],[],[],7,0,0⟩
def qe11_r:Shape:=⟨[(2,(.const (.ref 1 0))),(3,(.const (.ref 2 0)))],[[.str],[.str,V0,V3,V0,V4,V0],[V0,V0]],[],[],[],3,0,0⟩
noncomputable def ql11 (X:Type) (n:Nat):CutI X:=mkCi 8 0 0 0 qh11 [] [] [qe11_r] fun ks=>F.zb.C28 n (xr qe11_r ks)
def qh12:Shape:=⟨[(1,(.const (.ref 0 0))),(2,(.const (.ref 1 0))),(3,(.const (.ref 2 0))),(4,(.const (.ref 3 0))),(5,(.const (.fn 112 [] [(.ref 3 0),(.ref 0 0)]))),(6,(.const (.ref 4 0))),(7,.str),(9,.bool),(12,(.const (.ref 5 0))),(13,(.const (.ref 6 0))),(16,V0)],[[.str],[.str,V0,(.sl Y2 (.own 0)),V0,(.sl Y3 (.own 1)),V0],[V0,V0],[V0],[.str,V0,(.sl Y2 (.own 2)),V0,(.sl Y3 (.own 3)),V0],[.bool,V6,V0],[V0,V0]],[true,true,true,true],[],[],7,0,0⟩
def qe12_r:Shape:=⟨[(2,(.const (.ref 1 0))),(3,(.const (.ref 2 0)))],[[.str],[.str,V0,V3,V0,V4,V0],[V0,V0]],[],[],[],3,0,0⟩
noncomputable def ql12 (X:Type) (n:Nat):CutI X:=mkCi 8 0 0 0 qh12 [] [] [qe12_r] fun ks=>F.zb.C21 n (xr qe12_r ks)
def qh13:Shape:=⟨[(1,(.const (.ref 0 0))),(2,(.const (.ref 1 0))),(3,(.const (.ref 2 0))),(4,(.const (.ref 3 0))),(5,(.const (.fn 112 [] [(.ref 3 0),(.ref 0 0)]))),(6,(.const (.ref 4 0))),(7,.str),(9,.bool),(10,.str),(11,V0),(12,(.const (.ref 5 0))),(13,(.const (.ref 6 0))),(14,.str),(15,V0)],[[.str],[.str,V0,(.sl Y2 (.own 0)),V0,(.sl Y3 (.own 1)),V0],[V0,V0],[V0],[.str,V0,(.sl Y2 (.own 2)),V0,(.sl Y3 (.own 3)),V0],[.bool,V6,V0],[V0,V0]],[true,true,true,true],[],[],7,0,0⟩
def qe13_r:Shape:=⟨[(2,(.const (.ref 1 0))),(3,(.const (.ref 2 0)))],[[.str],[.str,V0,V3,V0,V4,V0],[V0,V0]],[],[],[],3,0,0⟩
noncomputable def ql13 (X:Type) (n:Nat):CutI X:=mkCi 8 0 0 0 qh13 [] [] [qe13_r] fun ks=>F.zb.C16 n (xr qe13_r ks)
def qh14:Shape:=⟨[(1,(.const (.ref 0 0))),(2,(.const (.ref 1 0))),(3,(.const (.ref 2 0))),(4,(.const (.ref 3 0))),(5,(.const (.fn 112 [] [(.ref 3 0),(.ref 0 0)]))),(6,(.const (.ref 4 0))),(7,.str),(9,.bool),(10,.str),(11,V0)],[[.str],[.str,V0,(.sl Y2 (.own 0)),V0,(.sl Y3 (.own 1)),V0],[V0,V0],[V0],[.str,V0,(.sl Y2 (.own 2)),V0,(.sl Y3 (.own 3)),V0]],[true,true,true,true],[],[],5,0,0⟩
def qe14_r:Shape:=⟨[(2,(.const (.ref 1 0))),(3,(.const (.ref 2 0)))],[[.str],[.str,V0,V3,V0,V4,V0],[V0,V0]],[],[],[],3,0,0⟩
noncomputable def ql14 (X:Type) (n:Nat):CutI X:=mkCi 8 0 0 0 qh14 [] [] [qe14_r] fun ks=>F.zb.C10 n (xr qe14_r ks)
def qh15:Shape:=⟨[(1,(.const (.ref 0 0))),(2,(.const (.ref 1 0))),(3,(.const (.ref 2 0))),(4,(.const (.ref 3 0))),(5,(.const (.fn 112 [] [(.ref 3 0),(.ref 0 0)]))),(6,(.const (.ref 4 0))),(7,.str),(9,.bool)],[[.str],[.str,V0,(.sl Y2 (.own 0)),V0,(.sl Y3 (.own 1)),V0],[V0,V0],[V0],[.str,V0,(.sl Y2 (.own 2)),V0,(.sl Y3 (.own 3)),V0]],[true,true,true,true],[],[],5,0,0⟩
def qe15_r:Shape:=⟨[(2,(.const (.ref 1 0))),(3,(.const (.ref 2 0)))],[[.str],[.str,V0,V3,V0,V4,V0],[V0,V0]],[],[],[],3,0,0⟩
noncomputable def ql15 (X:Type) (n:Nat):CutI X:=mkCi 8 0 0 0 qh15 [] [] [qe15_r] fun ks=>F.zb.C5 n (xr qe15_r ks)
noncomputable def cx58 (X:Type) (n:Nat):Cx X:=mkCx tab.get [(58,Tryz.f58),(112,Tryz.f112)] [o113 n,o114 n,o115 n,o116 n,o117 n,o118 n,o119 n] [] [] [(58,21,[(2,5),(2,7)])] [] [(58,5,[ql15 X n]),(58,10,[ql14 X n]),(58,16,[ql13 X n]),(58,21,[ql12 X n]),(58,28,[ql11 X n]),(58,30,[ql9 X n]),(58,31,[ql10 X n])]
theorem qo9 (X:Type) (n:Nat):CO (cx58 X n) 58 Tryz.f58 37 (ql9 X n):=fun _ _=>by kernel_rfl
theorem qo10 (X:Type) (n:Nat):CO (cx58 X n) 58 Tryz.f58 36 (ql10 X n):=fun _ _=>by kernel_rfl
theorem qo11 (X:Type) (n:Nat):CO (cx58 X n) 58 Tryz.f58 34 (ql11 X n):=fun _ _=>by kernel_rfl
theorem qo12 (X:Type) (n:Nat):CO (cx58 X n) 58 Tryz.f58 21 (ql12 X n):=fun _ _=>by kernel_rfl
theorem qo13 (X:Type) (n:Nat):CO (cx58 X n) 58 Tryz.f58 19 (ql13 X n):=fun _ _=>by kernel_rfl
theorem qo14 (X:Type) (n:Nat):CO (cx58 X n) 58 Tryz.f58 11 (ql14 X n):=fun _ _=>by kernel_rfl
theorem qo15 (X:Type) (n:Nat):CO (cx58 X n) 58 Tryz.f58 4 (ql15 X n):=fun _ _=>by kernel_rfl
theorem zww (X:Type) (n:Nat):CxOK Tryz.prog SW (cx58 X n):=mx (J (J Tryz.func58 (by decide)) (T1 (J Tryz.func112 (by decide)))) (J (zb (ok113 n)) (J (zb (ok114 n)) (J (zb (ok115 n)) (J (zb (ok116 n)) (J (zb (ok117 n)) (J (zb (ok118 n)) (T1 (zb (ok119 n))))))))) (J (okk (J trivial (J trivial (J trivial (J trivial (J (T1 (qo15 X n)) (J trivial (J trivial (J trivial (J trivial (J trivial (J trivial (J (T1 (qo14 X n)) (J trivial (J trivial (J trivial (J trivial (J trivial (J trivial (J trivial (J (T1 (qo13 X n)) (J trivial (J (T1 (qo12 X n)) (J trivial (J trivial (J trivial (J trivial (J trivial (J trivial (J trivial (J trivial (J trivial (J trivial (J trivial (J trivial (J (T1 (qo11 X n)) (J trivial (J (T1 (qo10 X n)) (J (T1 (qo9 X n)) (J trivial (J trivial (J trivial (J trivial (T1 trivial))))))))))))))))))))))))))))))))))))))))))) trivial trivial) (T1 (okc trivial trivial))) trivial
abbrev P58:List SV:=[.str]
abbrev R58:RV:=.many [V5,V2]
theorem ok58 (n:Nat):FO 58 P58 R58 (F.zb n):=zf WOf.st (zww _ n) (d:=8) fun _=>by kernel_rfl
noncomputable def o58 (n:Nat):=oc 58 P58 R58 (F.zb n)
noncomputable def cx140 (X:Type) (n:Nat):Cx X:=mkCx tab.get [(140,Tryz.f140)] [] [] [] [] []
theorem ztp (X:Type) (n:Nat):CxOK Tryz.prog SW (cx140 X n):=mx (T1 (J Tryz.func140 (by decide))) trivial (T1 (okc trivial trivial)) trivial
abbrev P140:List SV:=[V4]
abbrev R140:RV:=.one V4
theorem ok140 (n:Nat):FO 140 P140 R140 (F.zt n):=zf WOf.st (ztp _ n) (d:=8) fun _=>by kernel_rfl
noncomputable def o140 (n:Nat):=oc 140 P140 R140 (F.zt n)
def qh16:Shape:=⟨[(3,(.ms 2 Y3)),(4,V0),(11,(.ms 2 Y3)),(12,V0),(13,V0)],[[(.row Y3)],[(.row Y3)],[(.row Y3)]],[],[],[],3,0,0⟩
def qe16_0:Shape:=⟨[(3,(.ms 2 Y3)),(4,V0)],[[(.row Y3)],[(.row Y3)],[(.row Y3)]],[],[],[],3,0,0⟩
noncomputable def ql16 (X:Type) (n:Nat):LoopI X:=mkLi 8 0 0 0 qh16 [(0,qe16_0)] [] n fun m ks=>F.zy.L5 n (xe qe16_0 ks 0) m
noncomputable def cx68 (X:Type) (n:Nat):Cx X:=mkCx tab.get [(68,Tryz.f68),(135,Tryz.f135)] [o140 n] [(68,5,[ql16 X n])] [] [] [] [] [(34,Y3)] [(136,.sort Y3 137 sortTags)] none [135]
theorem qo16 (X:Type) (n:Nat):LO (cx68 X n) 68 Tryz.f68 0 (ql16 X n):=lok
theorem zwx (X:Type) (n:Nat):CxOK Tryz.prog SW (cx68 X n):=mx (J (J Tryz.func68 (by decide)) (T1 (J Tryz.func135 (by decide)))) (T1 (zb (ok140 n))) (J (okc (T1 (T1 (qo16 X n))) trivial) (T1 (okc trivial trivial))) trivial (T1 (zm6.mono (fun _ _=>trivial)))
abbrev P68:List SV:=[V4]
abbrev R68:RV:=.one V4
theorem ok68 (n:Nat):FO 68 P68 R68 (F.zy n):=zf WOf.st (zwx _ n) (d:=8) fun _=>by kernel_rfl
noncomputable def o68 (n:Nat):=oc 68 P68 R68 (F.zy n)
abbrev P126:List SV:=[.str,.str]
abbrev R126:RV:=.one V9
theorem ok126 (n:Nat):FO 126 P126 R126 (O.split1 n):=zq3 (enters Tryz.func126 (by kernel_rfl) (by decide)) Tryz.strings_Split_one n
noncomputable def o126 (n:Nat):=oc 126 P126 R126 (O.split1 n)
noncomputable def cx179 (X:Type) (n:Nat):Cx X:=mkCx tab.get [(179,Tryz.f179)] [] [] [] [] []
theorem ztq (X:Type) (n:Nat):CxOK Tryz.prog SW (cx179 X n):=mx (T1 (J Tryz.func179 (by decide))) trivial (T1 (okc trivial trivial)) trivial
abbrev P179:List SV:=[]
abbrev R179:RV:=.one V10
theorem ok179 (n:Nat):FO 179 P179 R179 (F.zcq n):=zf WOf.st (ztq _ n) (d:=8) fun _=>by kernel_rfl
noncomputable def o179 (n:Nat):=oc 179 P179 R179 (F.zcq n)
def qh17:Shape:=⟨[(0,.str),(6,V10),(7,V0)],[],[],[],[],0,0,0⟩
def qe17_0:Shape:=⟨[],[],[],[],[],0,0,0⟩
def qe17_r:Shape:=⟨[(2,V0),(3,V0)],[],[],[],[],0,0,0⟩
noncomputable def ql17 (X:Type) (n:Nat):LoopI X:=mkLi 8 0 0 0 qh17 [(0,qe17_0)] [qe17_r] n fun m ks=>F.zbl.L2 n (fun _=>xe qe17_0 ks 0) (xr qe17_r ks) m
noncomputable def cx183 (X:Type) (n:Nat):Cx X:=mkCx tab.get [(183,Tryz.f183)] [o179 n] [(183,2,[ql17 X n])] [] [] []
theorem qo17 (X:Type) (n:Nat):LO (cx183 X n) 183 Tryz.f183 0 (ql17 X n):=lok
theorem ztr (X:Type) (n:Nat):CxOK Tryz.prog SW (cx183 X n):=mx (T1 (J Tryz.func183 (by decide))) (T1 (zb (ok179 n))) (T1 (okc (T1 (T1 (qo17 X n))) trivial)) trivial
abbrev P183:List SV:=[.str]
abbrev R183:RV:=.many [V0,V0]
theorem ok183 (n:Nat):FO 183 P183 R183 (F.zbl n):=zf WOf.st (ztr _ n) (d:=8) fun _=>by kernel_rfl
noncomputable def o183 (n:Nat):=oc 183 P183 R183 (F.zbl n)
abbrev P250:List SV:=[.str]
abbrev R250:RV:=.many [V0,.err]
theorem ok250 (n:Nat):FO 250 P250 R250 (O.atoi n):=zwp (enters Tryz.func250 (by kernel_rfl) (by decide)) (fun s hs v hv w hw=>(Tryz.strconv_Atoi_ok s (by omega) v hv w).mono fun e w' ⟨a,b⟩=>⟨a,by rcases b with rfl | ⟨t,rfl⟩; exact Below.refl _ _; exact zm2⟩)
 (fun s hs n1 n2 w hw=>by obtain ⟨ev,hv,hev⟩:=swErrS hw; exact (Any.strconv_Atoi_syntax Tryz.laysC172 s (by omega) (by cases hq:Lib.atoiAll s.data.toList with | ok v=>exact absurd hq (n1 v) | range=>exact absurd hq n2 | _=>rfl) ev w hv hev).mono fun e w' ⟨N,a,_,_,b⟩=>⟨⟨_,_,a⟩,b⟩)
 (fun s hs hq w hw=>by obtain ⟨ev,hv,hev⟩:=swErrR hw; exact (Any.strconv_Atoi_range Tryz.laysC172 s (by omega) hq ev w hv hev).mono fun e w' ⟨N,a,_,_,b⟩=>⟨⟨_,_,a⟩,b⟩) n
noncomputable def o250 (n:Nat):=oc 250 P250 R250 (O.atoi n)
noncomputable def cx221 (X:Type) (n:Nat):Cx X:=mkCx tab.get [(221,Tryz.f221)] [o114 n,o176 n,o250 n] [] [] [] []
theorem zts (X:Type) (n:Nat):CxOK Tryz.prog SW (cx221 X n):=mx (T1 (J Tryz.func221 (by decide))) (J (zb (ok114 n)) (J (zb (ok176 n)) (T1 (zb (ok250 n))))) (T1 (okc trivial trivial)) trivial
abbrev P221:List SV:=[.str,V0,V0]
abbrev R221:RV:=.many [V0,V2]
theorem ok221 (n:Nat):FO 221 P221 R221 (F.zcr n):=zf WOf.st (zts _ n) (d:=8) fun _=>by kernel_rfl
noncomputable def o221 (n:Nat):=oc 221 P221 R221 (F.zcr n)
noncomputable def cx188 (X:Type) (n:Nat):Cx X:=mkCx tab.get [(188,Tryz.f188)] [o221 n] [] [] [] []
theorem ztt (X:Type) (n:Nat):CxOK Tryz.prog SW (cx188 X n):=mx (T1 (J Tryz.func188 (by decide))) (T1 (zb (ok221 n))) (T1 (okc trivial trivial)) trivial
abbrev P188:List SV:=[.str]
abbrev R188:RV:=.many [V0,V2]
theorem ok188 (n:Nat):FO 188 P188 R188 (F.zcm n):=zf WOf.st (ztt _ n) (d:=8) fun _=>by kernel_rfl
noncomputable def o188 (n:Nat):=oc 188 P188 R188 (F.zcm n)
noncomputable def cx162 (X:Type) (n:Nat):Cx X:=mkCx tab.get [(162,Tryz.f162)] [o114 n] [] [] [] []
theorem ztu (X:Type) (n:Nat):CxOK Tryz.prog SW (cx162 X n):=mx (T1 (J Tryz.func162 (by decide))) (T1 (zb (ok114 n))) (T1 (okc trivial trivial)) trivial
abbrev P162:List SV:=[V11]
abbrev R162:RV:=.one V0
theorem ok162 (n:Nat):FO 162 P162 R162 (F.zb2 n):=zf WOf.st (ztu _ n) (d:=8) fun _=>by kernel_rfl
noncomputable def o162 (n:Nat):=oc 162 P162 R162 (F.zb2 n)
def qh18:Shape:=⟨[(3,(.const (.ref 0 0))),(4,(.sl Y3 (.own 0))),(5,V0),(13,V9),(14,V0),(15,V0)],[[V0,V0]],[true],[],[],1,0,0⟩
def qe18_0:Shape:=⟨[(3,(.const (.ref 0 0))),(4,(.sl Y3 (.own 0)))],[[V0,V0]],[true],[],[],1,0,0⟩
def qe18_r:Shape:=⟨[(2,(.sl Y3 (.own 0))),(3,(.const (.ref 0 0)))],[[V0,V0]],[true],[],[],1,0,0⟩
noncomputable def ql18 (X:Type) (n:Nat):LoopI X:=mkLi 8 0 0 0 qh18 [(0,qe18_0)] [qe18_r] n fun m ks=>F.zax.L4 n (xe qe18_0 ks 0) (xr qe18_r ks) m
noncomputable def cx220 (X:Type) (n:Nat):Cx X:=mkCx tab.get [(220,Tryz.f220)] [o113 n,o126 n,o162 n] [(220,4,[ql18 X n])] [] [] []
theorem qo18 (X:Type) (n:Nat):LO (cx220 X n) 220 Tryz.f220 0 (ql18 X n):=lok
theorem ztv (X:Type) (n:Nat):CxOK Tryz.prog SW (cx220 X n):=mx (T1 (J Tryz.func220 (by decide))) (J (zb (ok113 n)) (J (zb (ok126 n)) (T1 (zb (ok162 n))))) (T1 (okc (T1 (T1 (qo18 X n))) trivial)) trivial
abbrev P220:List SV:=[.str]
abbrev R220:RV:=.many [V4,V2]
theorem ok220 (n:Nat):FO 220 P220 R220 (F.zax n):=zf WOf.st (ztv _ n) (d:=8) fun _=>by kernel_rfl
noncomputable def o220 (n:Nat):=oc 220 P220 R220 (F.zax n)
def qh19:Shape:=⟨[(0,(.const (.ref 2 0))),(4,(.const (.ref 4 0))),(8,V0),(42,V9),(43,V0),(44,V0)],[[.str,V0,(.sl Y2 (.own 0)),V0,(.sl Y3 (.own 1)),V0],[V0,V0],[.str,V0,(.sl Y2 (.own 2)),V0,V4,V0,V0,V0],[V0,V0],[V0,V0]],[true,true,true],[],[],5,3,0⟩
def qe19_1:Shape:=⟨[(4,(.const (.ref 4 0)))],[[.str,V0,(.sl Y2 (.own 0)),V0,(.sl Y3 (.own 1)),V0],[V0,V0],[.str,V0,(.sl Y2 (.own 2)),V0,V4,V0,V0,V0],[V0,V0],[V0,V0]],[true,true,true],[],[],5,3,0⟩
def qe19_r:Shape:=⟨[(4,(.const (.ref 4 0)))],[[.str,V0,(.sl Y2 (.own 0)),V0,(.sl Y3 (.own 1)),V0],[V0,V0],[.str,V0,(.sl Y2 (.own 2)),V0,V4,V0,V0,V0],[V0,V0],[V0,V0]],[true,true,true],[],[],5,3,0⟩
noncomputable def ql19 (X:Type) (n:Nat):LoopI X:=mkLi 7 4 3 0 qh19 [(1,qe19_1)] [qe19_r] n fun m ks=>F.ze.L9_dog_reader_first n (xe qe19_1 ks 1) (xr qe19_r ks) m
def qh20:Shape:=⟨[(0,(.const (.ref 2 0))),(1,.str),(4,(.const (.ref 4 0))),(19,V12),(20,V0)],[[.str,V0,(.sl Y2 (.own 0)),V0,(.sl Y3 (.own 1)),V0],[V0,V0],[.str,V0,(.sl Y2 (.own 2)),V0,V4,V0,V0,V0],[V0,V0],[V0,V0]],[true,true,true],[],[],5,3,0⟩
def qe20_0:Shape:=⟨[(0,(.const (.ref 2 0))),(4,(.const (.ref 4 0)))],[[.str,V0,(.sl Y2 (.own 0)),V0,(.sl Y3 (.own 1)),V0],[V0,V0],[.str,V0,(.sl Y2 (.own 2)),V0,V4,V0,V0,V0],[V0,V0],[V0,V0]],[true,true,true],[],[],5,3,0⟩
def qe20_r:Shape:=⟨[(4,(.const (.ref 4 0)))],[[.str,V0,(.sl Y2 (.own 0)),V0,(.sl Y3 (.own 1)),V0],[V0,V0],[.str,V0,(.sl Y2 (.own 2)),V0,V4,V0,V0,V0],[V0,V0],[V0,V0]],[true,true,true],[],[],5,3,0⟩
noncomputable def ql20 (X:Type) (n:Nat):LoopI X:=mkLi 7 4 3 0 qh20 [(0,qe20_0)] [qe20_r] n fun m ks=>F.ze.L2_dog_reader_more n (xe qe20_0 ks 0) (xr qe20_r ks) m
def qh21:Shape:=⟨[(0,.str),(2,(.const (.ref 0 0))),(3,(.const (.ref 1 0))),(4,(.const (.ref 2 0))),(5,V9),(6,(.const (.imms 2 [(.fn 127 [(.ref 2 0)] []),(.fn 128 [(.ref 2 0)] [])]))),(7,(.const (.ref 3 0))),(26,V9),(27,V0),(28,V0)],[[.str,V0,(.sl Y2 (.own 0)),V0,(.sl Y3 (.own 1)),V0],[V0,V0],[.str,V0,(.sl Y2 (.own 2)),V0,V4,V0,V0,V0],[V0,V0]],[true,true,true],[],[],4,0,0⟩
def qe21_0:Shape:=⟨[(0,.str),(2,(.const (.ref 0 0))),(3,(.const (.ref 1 0))),(4,(.const (.ref 2 0))),(5,V9),(6,(.const (.imms 2 [(.fn 127 [(.ref 2 0)] []),(.fn 128 [(.ref 2 0)] [])]))),(7,(.const (.ref 3 0)))],[[.str,V0,(.sl Y2 (.own 0)),V0,(.sl Y3 (.own 1)),V0],[V0,V0],[.str,V0,(.sl Y2 (.own 2)),V0,V4,V0,V0,V0],[V0,V0]],[true,true,true],[],[],4,0,0⟩
noncomputable def ql21 (X:Type) (n:Nat):LoopI X:=mkLi 8 0 0 0 qh21 [(0,qe21_0)] [] n fun m ks=>F.ze.L8 n (xe qe21_0 ks 0) m
noncomputable def cx60 (X:Type) (n:Nat):Cx X:=mkCx tab.get [(60,Tryz.f60),(127,Tryz.f127),(128,Tryz.f128),(129,Tryz.f129),(182,Tryz.f182),(184,Tryz.f184),(185,Tryz.f185),(186,Tryz.f186)] [o68 n,o113 n,o114 n,o116 n,o119 n,o126 n,o173 n,o183 n,o188 n,o220 n] [(60,8,[ql21 X n]),(127,9,[ql19 X n]),(129,2,[ql20 X n])] [] [(60,20,[(1,2)]),(60,21,[(4,5)])] []
theorem qo19 (X:Type) (n:Nat):LO (cx60 X n) 127 Tryz.f127 0 (ql19 X n):=lok
theorem qo20 (X:Type) (n:Nat):LO (cx60 X n) 129 Tryz.f129 0 (ql20 X n):=lok
theorem qo21 (X:Type) (n:Nat):LO (cx60 X n) 60 Tryz.f60 0 (ql21 X n):=lok
theorem zwy (X:Type) (n:Nat):CxOK Tryz.prog SW (cx60 X n):=mx (J (J Tryz.func60 (by decide)) (J (J Tryz.func127 (by decide)) (J (J Tryz.func128 (by decide)) (J (J Tryz.func129 (by decide)) (J (J Tryz.func182 (by decide)) (J (J Tryz.func184 (by decide)) (J (J Tryz.func185 (by decide)) (T1 (J Tryz.func186 (by decide)))))))))) (J (zb (ok68 n)) (J (zb (ok113 n)) (J (zb (ok114 n)) (J (zb (ok116 n)) (J (zb (ok119 n)) (J (zb (ok126 n)) (J (zb (ok173 n)) (J (zb (ok183 n)) (J (zb (ok188 n)) (T1 (zb (ok220 n)))))))))))) (J (okc (T1 (T1 (qo21 X n))) trivial) (J (okc (T1 (T1 (qo19 X n))) trivial) (J (okc trivial trivial) (J (okc (T1 (T1 (qo20 X n))) trivial) (J (okc trivial trivial) (J (okc trivial trivial) (J (okc trivial trivial) (T1 (okc trivial trivial))))))))) trivial
abbrev P60:List SV:=[.str]
abbrev R60:RV:=.many [V5,V2]
theorem ok60 (n:Nat):FO 60 P60 R60 (F.ze n):=zf WOf.st (zwy _ n) (d:=8) fun _=>by kernel_rfl
noncomputable def o60 (n:Nat):=oc 60 P60 R60 (F.ze n)
def qh22:Shape:=⟨[(0,(.const (.yield 0))),(1,(.const (.ref 4 0))),(3,V0),(4,V0),(5,.bool)],[[.str,V0,(.sl Y2 (.own 0)),V0,(.sl Y3 (.own 1)),V0],[V0,V0],[.str,V0,(.sl Y2 (.own 2)),V0,(.sl Y3 (.own 3)),V0],[V0,V0],[.str]],[true,true,true,true],[.ready],[(0,62,4,[(4,(.const (.ref 2 0))),(5,(.const (.ref 3 0)))])],5,0,1⟩
def qe22_0:Shape:=⟨[],[[.str,V0,(.sl Y2 (.own 0)),V0,(.sl Y3 (.own 1)),V0],[V0,V0],[.str,V0,(.sl Y2 (.own 2)),V0,(.sl Y3 (.own 3)),V0],[V0,V0],[.str]],[true,true,true,true],[.ready],[],5,0,1⟩
def qe22_r:Shape:=⟨[],[[.str,V0,(.sl Y2 (.own 0)),V0,(.sl Y3 (.own 1)),V0],[V0,V0],[.str,V0,(.sl Y2 (.own 2)),V0,(.sl Y3 (.own 3)),V0],[V0,V0],[.str]],[true,true,true,true],[.done (.ex 0)],[],5,0,1⟩
noncomputable def ql22 (X:Type) (n:Nat):LoopI X:=mkLi 7 5 0 1 qh22 [(0,qe22_0)] [qe22_r] n fun m ks=>F.zo.L2_graphite_cut_1 n (xe qe22_0 ks 0) (xr qe22_r ks) m
noncomputable def cx62 (X:Type) (n:Nat):Cx X:=mkCx tab.get [(62,Tryz.f62),(130,Tryz.f130),(131,Tryz.f131),(187,Tryz.f187)] [o113 n,o114 n,o116 n,o188 n] [(187,2,[ql22 X n])] [(62,4,Tryz.f62,[4,5],0)] [(62,13,[(1,2)]),(62,14,[(1,2)])] []
theorem qo22 (X:Type) (n:Nat):LO (cx62 X n) 187 Tryz.f187 0 (ql22 X n):=lok
theorem zwz (X:Type) (n:Nat):CxOK Tryz.prog SW (cx62 X n):=mx (J (J Tryz.func62 (by decide)) (J (J Tryz.func130 (by decide)) (J (J Tryz.func131 (by decide)) (T1 (J Tryz.func187 (by decide)))))) (J (zb (ok113 n)) (J (zb (ok114 n)) (J (zb (ok116 n)) (T1 (zb (ok188 n)))))) (J (okc trivial (T1 (rfo (cx:=cx62 X n) (g:=62) (i:=4) (lv:=[4,5]) (show _=some (Tryz.f62.ntmps,_,rfNo Tryz.f62 0) by kernel_rfl)))) (J (okc trivial trivial) (J (okc trivial trivial) (T1 (okc (T1 (T1 (qo22 X n))) trivial))))) (T1 (J Tryz.func62 rfl))
abbrev P62:List SV:=[.str]
abbrev R62:RV:=.many [V5,V2]
theorem ok62 (n:Nat):FO 62 P62 R62 (F.zo n):=zf WOf.st (zwz _ n) (d:=8) fun _=>by kernel_rfl
noncomputable def o62 (n:Nat):=oc 62 P62 R62 (F.zo n)
noncomputable def cx15 (X:Type) (n:Nat):Cx X:=mkCx tab.get [(15,Tryz.f15),(32,Tryz.f32)] [o58 n,o60 n,o62 n] [] [] [] []
theorem zw0 (X:Type) (n:Nat):CxOK Tryz.prog SW (cx15 X n):=mx (J (J Tryz.func15 (by decide)) (T1 (J Tryz.func32 (by decide)))) (J (zb (ok58 n)) (J (zb (ok60 n)) (T1 (zb (ok62 n))))) (J (okc trivial trivial) (T1 (okc trivial trivial))) trivial
abbrev P15:List SV:=[.str,V0]
abbrev R15:RV:=.many [V5,V2]
theorem ok15 (n:Nat):FO 15 P15 R15 (F.zbv n):=zf WOf.st (zw0 _ n) (d:=8) fun _=>by kernel_rfl
noncomputable def o15 (n:Nat):=oc 15 P15 R15 (F.zbv n)
noncomputable def cx133 (X:Type) (n:Nat):Cx X:=mkCx tab.get [(133,Tryz.f133)] [] [] [] [] []
theorem ztw (X:Type) (n:Nat):CxOK Tryz.prog SW (cx133 X n):=mx (T1 (J Tryz.func133 (by decide))) trivial (T1 (okc trivial trivial)) trivial
abbrev P133:List SV:=[.str,.str]
abbrev R133:RV:=.one .bool
theorem ok133 (n:Nat):FO 133 P133 R133 (F.za8 n):=zf WOf.st (ztw _ n) (d:=8) fun _=>by kernel_rfl
noncomputable def o133 (n:Nat):=oc 133 P133 R133 (F.za8 n)
noncomputable def cx65 (X:Type) (n:Nat):Cx X:=mkCx tab.get [(65,Tryz.f65)] [o133 n] [] [] [] []
theorem zw1 (X:Type) (n:Nat):CxOK Tryz.prog SW (cx65 X n):=mx (T1 (J Tryz.func65 (by decide))) (T1 (zb (ok133 n))) (T1 (okc trivial trivial)) trivial
abbrev P65:List SV:=[.str,.str]
abbrev R65:RV:=.many [.str,.bool]
theorem ok65 (n:Nat):FO 65 P65 R65 (F.za9 n):=zf WOf.st (zw1 _ n) (d:=8) fun _=>by kernel_rfl
noncomputable def o65 (n:Nat):=oc 65 P65 R65 (F.za9 n)
noncomputable def cx34 (X:Type) (n:Nat):Cx X:=mkCx tab.get [(34,Tryz.f34)] [o65 n] [] [] [] []
theorem zw2 (X:Type) (n:Nat):CxOK Tryz.prog SW (cx34 X n):=mx (T1 (J Tryz.func34 (by decide))) (T1 (zb (ok65 n))) (T1 (okc trivial trivial)) trivial
abbrev P34:List SV:=[.str,.str]
abbrev R34:RV:=.many [.str,.bool]
theorem ok34 (n:Nat):FO 34 P34 R34 (F.zay n):=zf WOf.st (zw2 _ n) (d:=8) fun _=>by kernel_rfl
noncomputable def o34 (n:Nat):=oc 34 P34 R34 (F.zay n)
abbrev P132:List SV:=[.str,V1]
abbrev R132:RV:=.one V0
theorem ok132 (n:Nat):FO 132 P132 R132 (O.indexB n):=zq4 (enters Tryz.func132 (by kernel_rfl) (by decide)) Tryz.stringslite_IndexByte n
noncomputable def o132 (n:Nat):=oc 132 P132 R132 (O.indexB n)
noncomputable def cx64 (X:Type) (n:Nat):Cx X:=mkCx tab.get [(64,Tryz.f64)] [o132 n] [] [] [] []
theorem zw3 (X:Type) (n:Nat):CxOK Tryz.prog SW (cx64 X n):=mx (T1 (J Tryz.func64 (by decide))) (T1 (zb (ok132 n))) (T1 (okc trivial trivial)) trivial
abbrev P64:List SV:=[.str,V1]
abbrev R64:RV:=.one V0
theorem ok64 (n:Nat):FO 64 P64 R64 (F.zbs n):=zf WOf.st (zw3 _ n) (d:=8) fun _=>by kernel_rfl
noncomputable def o64 (n:Nat):=oc 64 P64 R64 (F.zbs n)
def qh23:Shape:=⟨[(0,(.const (.yield 0))),(1,(.const (.ref 7 0)))],[[V0],[(.sl Y6 (.own 0))],[V0,V0],[(.const (.fn 57 [] [])),(.const (.fn 58 [] []))],[(.const (.fn 57 [] [])),(.const (.fn 58 [] []))],[(.sl Y6 (.own 1))],[V0],[.str]],[true,true],[.ready],[(0,10,7,[(3,(.const (.ref 0 0))),(4,(.const (.ref 1 0))),(5,(.const (.ref 2 0))),(8,(.const (.ref 5 0))),(9,(.const (.ref 6 0)))])],8,0,1⟩
def qe23_0:Shape:=⟨[],[[V0],[(.sl Y6 (.own 0))],[V0,V0],[(.const (.fn 57 [] [])),(.const (.fn 58 [] []))],[(.const (.fn 57 [] [])),(.const (.fn 58 [] []))],[(.sl Y6 (.own 1))],[V0],[.str]],[true,true],[.ready],[],8,0,1⟩
def qe23_r:Shape:=⟨[],[[V0],[(.sl Y6 (.own 0))],[V0,V0],[(.const (.fn 57 [] [])),(.const (.fn 58 [] []))],[(.const (.fn 57 [] [])),(.const (.fn 58 [] []))],[(.sl Y6 (.own 1))],[V0],[.str]],[true,true],[.done .ret],[],8,0,1⟩
noncomputable def ql23 (X:Type) (n:Nat):LoopI X:=mkLi 7 8 0 1 qh23 [(0,qe23_0)] [qe23_r] n fun m ks=>F.zx.L0_strings_Lines_1 n (xe qe23_0 ks 0) (xr qe23_r ks) m
def qh24:Shape:=⟨[(0,(.const (.yield 0))),(1,(.const (.ref 7 0)))],[[V0],[(.sl Y6 (.own 0))],[V0,V0],[(.const (.fn 59 [] [])),(.const (.fn 60 [] []))],[(.const (.fn 59 [] [])),(.const (.fn 60 [] []))],[(.sl Y6 (.own 1))],[V0],[.str]],[true,true],[.ready],[(0,10,7,[(3,(.const (.ref 0 0))),(4,(.const (.ref 1 0))),(5,(.const (.ref 2 0))),(8,(.const (.ref 5 0))),(9,(.const (.ref 6 0)))])],8,0,1⟩
def qe24_0:Shape:=⟨[],[[V0],[(.sl Y6 (.own 0))],[V0,V0],[(.const (.fn 59 [] [])),(.const (.fn 60 [] []))],[(.const (.fn 59 [] [])),(.const (.fn 60 [] []))],[(.sl Y6 (.own 1))],[V0],[.str]],[true,true],[.ready],[],8,0,1⟩
def qe24_r:Shape:=⟨[],[[V0],[(.sl Y6 (.own 0))],[V0,V0],[(.const (.fn 59 [] [])),(.const (.fn 60 [] []))],[(.const (.fn 59 [] [])),(.const (.fn 60 [] []))],[(.sl Y6 (.own 1))],[V0],[.str]],[true,true],[.done .ret],[],8,0,1⟩
noncomputable def ql24 (X:Type) (n:Nat):LoopI X:=mkLi 7 8 0 1 qh24 [(0,qe24_0)] [qe24_r] n fun m ks=>F.zx.L0_strings_Lines_1 n (xe qe24_0 ks 0) (xr qe24_r ks) m
def qh25:Shape:=⟨[(0,(.const (.yield 0))),(1,(.const (.ref 7 0)))],[[V0],[(.sl Y6 (.own 0))],[V0,V0],[(.const (.fn 61 [] [])),(.const (.fn 62 [] []))],[(.const (.fn 61 [] [])),(.const (.fn 62 [] []))],[(.sl Y6 (.own 1))],[V0],[.str]],[true,true],[.ready],[(0,10,7,[(3,(.const (.ref 0 0))),(4,(.const (.ref 1 0))),(5,(.const (.ref 2 0))),(8,(.const (.ref 5 0))),(9,(.const (.ref 6 0)))])],8,0,1⟩
def qe25_0:Shape:=⟨[],[[V0],[(.sl Y6 (.own 0))],[V0,V0],[(.const (.fn 61 [] [])),(.const (.fn 62 [] []))],[(.const (.fn 61 [] [])),(.const (.fn 62 [] []))],[(.sl Y6 (.own 1))],[V0],[.str]],[true,true],[.ready],[],8,0,1⟩
def qe25_r:Shape:=⟨[],[[V0],[(.sl Y6 (.own 0))],[V0,V0],[(.const (.fn 61 [] [])),(.const (.fn 62 [] []))],[(.const (.fn 61 [] [])),(.const (.fn 62 [] []))],[(.sl Y6 (.own 1))],[V0],[.str]],[true,true],[.done .ret],[],8,0,1⟩
noncomputable def ql25 (X:Type) (n:Nat):LoopI X:=mkLi 7 8 0 1 qh25 [(0,qe25_0)] [qe25_r] n fun m ks=>F.zx.L0_strings_Lines_1 n (xe qe25_0 ks 0) (xr qe25_r ks) m
noncomputable def cx10 (X:Type) (n:Nat):Cx X:=mkCx tab.get [(10,Tryz.f10),(32,Tryz.f32),(33,Tryz.f33),(63,Tryz.f63)] [o15 n,o34 n,o64 n] [(63,0,[ql23 X n,ql24 X n,ql25 X n])] [(10,7,Tryz.f10,[3,4,5,8,9],0)] [(10,17,[(1,7),(2,7),(4,7)])] []
theorem qo23 (X:Type) (n:Nat):LO (cx10 X n) 63 Tryz.f63 0 (ql23 X n):=lok
theorem qo24 (X:Type) (n:Nat):LO (cx10 X n) 63 Tryz.f63 0 (ql24 X n):=lok
theorem qo25 (X:Type) (n:Nat):LO (cx10 X n) 63 Tryz.f63 0 (ql25 X n):=lok
theorem zw4 (X:Type) (n:Nat):CxOK Tryz.prog SW (cx10 X n):=mx (J (J Tryz.func10 (by decide)) (J (J Tryz.func32 (by decide)) (J (J Tryz.func33 (by decide)) (T1 (J Tryz.func63 (by decide)))))) (J (zb (ok15 n)) (J (zb (ok34 n)) (T1 (zb (ok64 n))))) (J (okc trivial (T1 (rfo (cx:=cx10 X n) (g:=10) (i:=7) (lv:=[3,4,5,8,9]) (show _=some (Tryz.f10.ntmps,_,rfNo Tryz.f10 0) by kernel_rfl)))) (J (okc trivial trivial) (J (okc trivial trivial) (T1 (okc (T1 (J (qo23 X n) (J (qo24 X n) (T1 (qo25 X n))))) trivial))))) (T1 (J Tryz.func10 rfl))
abbrev P10:List SV:=[V13,V0]
abbrev R10:RV:=.many [V14,V2]
theorem ok10 (n:Nat):FO 10 P10 R10 (F.zx n):=zf WOf.st (zw4 _ n) (d:=8) fun _=>by kernel_rfl
noncomputable def o10 (n:Nat):=oc 10 P10 R10 (F.zx n)
noncomputable def cx9 (X:Type) (n:Nat):Cx X:=mkCx tab.get [(9,Tryz.f9)] [o10 n] [] [] [] [] [] [(22,.u8)]
theorem zzb (X:Type) (n:Nat):CxOK Tryz.prog SW (cx9 X n):=mx (T1 (J Tryz.func9 (by decide))) (T1 (zb (ok10 n))) (T1 (okc trivial trivial)) trivial
abbrev P9:List SV:=[]
abbrev R9:RV:=.one .bool
theorem ok9 (n:Nat):FO 9 P9 R9 (F.za4 n):=zf WOf.st (zzb _ n) (d:=8) fun _=>by kernel_rfl
noncomputable def o9 (n:Nat):=oc 9 P9 R9 (F.za4 n)
noncomputable def cx18 (X:Type) (n:Nat):Cx X:=mkCx tab.get [(18,Tryz.f18)] [] [] [] [] []
theorem zw5 (X:Type) (n:Nat):CxOK Tryz.prog SW (cx18 X n):=mx (T1 (J Tryz.func18 (by decide))) trivial (T1 (okc trivial trivial)) trivial
abbrev P18:List SV:=[V0]
abbrev R18:RV:=.one .bool
theorem ok18 (n:Nat):FO 18 P18 R18 (F.zcn n):=zf WOf.st (zw5 _ n) (d:=8) fun _=>by kernel_rfl
noncomputable def o18 (n:Nat):=oc 18 P18 R18 (F.zcn n)
def qh26:Shape:=⟨[(0,.str),(2,V1),(7,V0)],[],[],[],[],0,0,0⟩
def qe26_0:Shape:=⟨[(0,.str)],[],[],[],[],0,0,0⟩
def qe26_r:Shape:=⟨[(6,V0)],[],[],[],[],0,0,0⟩
noncomputable def ql26 (X:Type) (n:Nat):LoopI X:=mkLi 8 0 0 0 qh26 [(0,qe26_0)] [qe26_r] n fun m ks=>F.zu.L2 n (xe qe26_0 ks 0) (xr qe26_r ks) m
noncomputable def cx69 (X:Type) (n:Nat):Cx X:=mkCx tab.get [(69,Tryz.f69)] [] [(69,2,[ql26 X n])] [] [] []
theorem qo26 (X:Type) (n:Nat):LO (cx69 X n) 69 Tryz.f69 0 (ql26 X n):=lok
theorem zw6 (X:Type) (n:Nat):CxOK Tryz.prog SW (cx69 X n):=mx (T1 (J Tryz.func69 (by decide))) trivial (T1 (okc (T1 (T1 (qo26 X n))) trivial)) trivial
abbrev P69:List SV:=[.str,V0,V1]
abbrev R69:RV:=.one V0
theorem ok69 (n:Nat):FO 69 P69 R69 (F.zu n):=zf WOf.st (zw6 _ n) (d:=8) fun _=>by kernel_rfl
noncomputable def o69 (n:Nat):=oc 69 P69 R69 (F.zu n)
noncomputable def cx232 (X:Type) (n:Nat):Cx X:=mkCx tab.get [(232,Tryz.f232)] [] [] [] [] []
theorem ztx (X:Type) (n:Nat):CxOK Tryz.prog SW (cx232 X n):=mx (T1 (J Tryz.func232 (by decide))) trivial (T1 (okc trivial trivial)) trivial
abbrev P232:List SV:=[V0]
abbrev R232:RV:=.one .str
theorem ok232 (n:Nat):FO 232 P232 R232 (F.zcb n):=zf WOf.st (ztx _ n) (d:=8) fun _=>by kernel_rfl
noncomputable def o232 (n:Nat):=oc 232 P232 R232 (F.zcb n)
def qh27:Shape:=⟨[(1,V1),(5,.str),(6,V0)],[],[],[],[],0,0,0⟩
def qe27_0:Shape:=⟨[],[],[],[],[],0,0,0⟩
def qe27_r:Shape:=⟨[(4,.bool)],[],[],[],[],0,0,0⟩
noncomputable def ql27 (X:Type) (n:Nat):LoopI X:=mkLi 8 0 0 0 qh27 [(0,qe27_0)] [qe27_r] n fun m ks=>F.za0.L3 n (fun _=>xe qe27_0 ks 0) (xr qe27_r ks) m
noncomputable def cx195 (X:Type) (n:Nat):Cx X:=mkCx tab.get [(195,Tryz.f195)] [o232 n] [(195,3,[ql27 X n])] [] [] []
theorem qo27 (X:Type) (n:Nat):LO (cx195 X n) 195 Tryz.f195 0 (ql27 X n):=lok
theorem zty (X:Type) (n:Nat):CxOK Tryz.prog SW (cx195 X n):=mx (T1 (J Tryz.func195 (by decide))) (T1 (zb (ok232 n))) (T1 (okc (T1 (T1 (qo27 X n))) trivial)) trivial
abbrev P195:List SV:=[V0,V1]
abbrev R195:RV:=.one .bool
theorem ok195 (n:Nat):FO 195 P195 R195 (F.za0 n):=zf WOf.st (zty _ n) (d:=8) fun _=>by kernel_rfl
noncomputable def o195 (n:Nat):=oc 195 P195 R195 (F.za0 n)
def qh28:Shape:=⟨[(0,V0),(1,.str),(5,V0)],[],[],[],[],0,0,0⟩
def qe28_0:Shape:=⟨[],[],[],[],[],0,0,0⟩
def qe28_r:Shape:=⟨[(4,V0)],[],[],[],[],0,0,0⟩
noncomputable def ql28 (X:Type) (n:Nat):LoopI X:=mkLi 8 0 0 0 qh28 [(0,qe28_0)] [qe28_r] n fun m ks=>F.zas.L2 n (fun _=>xe qe28_0 ks 0) (xr qe28_r ks) m
noncomputable def cx143 (X:Type) (n:Nat):Cx X:=mkCx tab.get [(143,Tryz.f143)] [o195 n] [(143,2,[ql28 X n])] [] [] []
theorem qo28 (X:Type) (n:Nat):LO (cx143 X n) 143 Tryz.f143 0 (ql28 X n):=lok
theorem ztz (X:Type) (n:Nat):CxOK Tryz.prog SW (cx143 X n):=mx (T1 (J Tryz.func143 (by decide))) (T1 (zb (ok195 n))) (T1 (okc (T1 (T1 (qo28 X n))) trivial)) trivial
abbrev P143:List SV:=[V0,.str]
abbrev R143:RV:=.one V0
theorem ok143 (n:Nat):FO 143 P143 R143 (F.zas n):=zf WOf.st (ztz _ n) (d:=8) fun _=>by kernel_rfl
noncomputable def o143 (n:Nat):=oc 143 P143 R143 (F.zas n)
noncomputable def cx141 (X:Type) (n:Nat):Cx X:=mkCx tab.get [(141,Tryz.f141)] [o143 n] [] [] [] []
theorem zt0 (X:Type) (n:Nat):CxOK Tryz.prog SW (cx141 X n):=mx (T1 (J Tryz.func141 (by decide))) (T1 (zb (ok143 n))) (T1 (okc trivial trivial)) trivial
abbrev P141:List SV:=[V0,.str,V0,V0]
abbrev R141:RV:=.one V2
theorem ok141 (n:Nat):FO 141 P141 R141 (F.zbw n):=zf WOf.st (zt0 _ n) (d:=8) fun _=>by kernel_rfl
noncomputable def o141 (n:Nat):=oc 141 P141 R141 (F.zbw n)
noncomputable def cx70 (X:Type) (n:Nat):Cx X:=mkCx tab.get [(70,Tryz.f70)] [o141 n] [] [] [] []
theorem zw7 (X:Type) (n:Nat):CxOK Tryz.prog SW (cx70 X n):=mx (T1 (J Tryz.func70 (by decide))) (T1 (zb (ok141 n))) (T1 (okc trivial trivial)) trivial
abbrev P70:List SV:=[.str]
abbrev R70:RV:=.one .bool
theorem ok70 (n:Nat):FO 70 P70 R70 (F.zb5 n):=zf WOf.st (zw7 _ n) (d:=8) fun _=>by kernel_rfl
noncomputable def o70 (n:Nat):=oc 70 P70 R70 (F.zb5 n)
noncomputable def cx71 (X:Type) (n:Nat):Cx X:=mkCx tab.get [(71,Tryz.f71)] [] [] [] [] []
theorem zw8 (X:Type) (n:Nat):CxOK Tryz.prog SW (cx71 X n):=mx (T1 (J Tryz.func71 (by decide))) trivial (T1 (okc trivial trivial)) trivial
abbrev P71:List SV:=[V0,V0]
abbrev R71:RV:=.many [V5,V2]
theorem ok71 (n:Nat):FO 71 P71 R71 (F.za1 n):=zf WOf.st (zw8 _ n) (d:=8) fun _=>by kernel_rfl
noncomputable def o71 (n:Nat):=oc 71 P71 R71 (F.za1 n)
noncomputable def cx147 (X:Type) (n:Nat):Cx X:=mkCx tab.get [(147,Tryz.f147)] [] [] [] [] []
theorem zt1 (X:Type) (n:Nat):CxOK Tryz.prog SW (cx147 X n):=mx (T1 (J Tryz.func147 (by decide))) trivial (T1 (okc trivial trivial)) trivial
abbrev P147:List SV:=[.str]
abbrev R147:RV:=.one .bool
theorem ok147 (n:Nat):FO 147 P147 R147 (F.zbx n):=zf WOf.st (zt1 _ n) (d:=8) fun _=>by kernel_rfl
noncomputable def o147 (n:Nat):=oc 147 P147 R147 (F.zbx n)
def qh29:Shape:=⟨[(0,.str),(3,V6),(4,V0)],[],[],[],[],0,0,0⟩
def qe29_0:Shape:=⟨[(3,V6)],[],[],[],[],0,0,0⟩
noncomputable def ql29 (X:Type) (n:Nat):LoopI X:=mkLi 8 0 0 0 qh29 [(0,qe29_0)] [] n fun m ks=>F.zag.L3 n (xe qe29_0 ks 0) m
noncomputable def cx148 (X:Type) (n:Nat):Cx X:=mkCx tab.get [(148,Tryz.f148)] [] [(148,3,[ql29 X n])] [] [] []
theorem qo29 (X:Type) (n:Nat):LO (cx148 X n) 148 Tryz.f148 0 (ql29 X n):=lok
theorem zt2 (X:Type) (n:Nat):CxOK Tryz.prog SW (cx148 X n):=mx (T1 (J Tryz.func148 (by decide))) trivial (T1 (okc (T1 (T1 (qo29 X n))) trivial)) trivial
abbrev P148:List SV:=[.str]
abbrev R148:RV:=.one V6
theorem ok148 (n:Nat):FO 148 P148 R148 (F.zag n):=zf WOf.st (zt2 _ n) (d:=8) fun _=>by kernel_rfl
noncomputable def o148 (n:Nat):=oc 148 P148 R148 (F.zag n)
def qh30:Shape:=⟨[(0,.bool),(1,.str),(2,V0),(6,(.const (.ref 0 0)))],[[.bool,V6,V0]],[],[],[],1,0,0⟩
def qe30_0:Shape:=⟨[(0,.bool),(1,.str),(2,V0),(6,(.const (.ref 0 0)))],[[.bool,V6,V0]],[],[],[],1,0,0⟩
noncomputable def ql30 (X:Type) (n:Nat):LoopI X:=mkLi 8 0 0 0 qh30 [(0,qe30_0)] [] n fun m ks=>F.zd.L1 n (xe qe30_0 ks 0) m
def qh31:Shape:=⟨[(0,.bool),(1,.str),(2,V0),(6,(.const (.ref 0 0)))],[[.bool,V6,V0]],[],[],[],1,0,0⟩
def qe31_2:Shape:=⟨[(0,.bool),(1,.str),(2,V0),(6,(.const (.ref 0 0)))],[[.bool,V6,V0]],[],[],[],1,0,0⟩
noncomputable def ql31 (X:Type) (n:Nat):LoopI X:=mkLi 8 0 0 0 qh31 [(2,qe31_2)] [] n fun m ks=>F.zd.L7 n (xe qe31_2 ks 2) m
def qh32:Shape:=⟨[(0,.bool),(1,.str),(2,V0),(6,(.const (.ref 0 0)))],[[.bool,V6,V0]],[],[],[],1,0,0⟩
def qe32_4:Shape:=⟨[(0,.bool),(1,.str),(2,V0),(6,(.const (.ref 0 0)))],[[.bool,V6,V0]],[],[],[],1,0,0⟩
noncomputable def ql32 (X:Type) (n:Nat):LoopI X:=mkLi 8 0 0 0 qh32 [(4,qe32_4)] [] n fun m ks=>F.zd.L10 n (xe qe32_4 ks 4) m
noncomputable def cx81 (X:Type) (n:Nat):Cx X:=mkCx tab.get [(81,Tryz.f81)] [o147 n,o148 n] [(81,1,[ql30 X n]),(81,7,[ql31 X n]),(81,10,[ql32 X n])] [] [] []
theorem qo30 (X:Type) (n:Nat):LO (cx81 X n) 81 Tryz.f81 0 (ql30 X n):=lok
theorem qo31 (X:Type) (n:Nat):LO (cx81 X n) 81 Tryz.f81 1 (ql31 X n):=lok
theorem qo32 (X:Type) (n:Nat):LO (cx81 X n) 81 Tryz.f81 2 (ql32 X n):=lok
theorem zw9 (X:Type) (n:Nat):CxOK Tryz.prog SW (cx81 X n):=mx (T1 (J Tryz.func81 (by decide))) (J (zb (ok147 n)) (T1 (zb (ok148 n)))) (T1 (okc (J (T1 (qo30 X n)) (J (T1 (qo31 X n)) (T1 (T1 (qo32 X n))))) trivial)) trivial
abbrev P81:List SV:=[.bool,.str,V0]
abbrev R81:RV:=.many [V7,.bool]
theorem ok81 (n:Nat):FO 81 P81 R81 (F.zd n):=zf WOf.st (zw9 _ n) (d:=8) fun _=>by kernel_rfl
noncomputable def o81 (n:Nat):=oc 81 P81 R81 (F.zd n)
noncomputable def cx142 (X:Type) (n:Nat):Cx X:=mkCx tab.get [(142,Tryz.f142)] [] [] [] [] []
theorem zt3 (X:Type) (n:Nat):CxOK Tryz.prog SW (cx142 X n):=mx (T1 (J Tryz.func142 (by decide))) trivial (T1 (okc trivial trivial)) trivial
abbrev P142:List SV:=[V1]
abbrev R142:RV:=.one .bool
theorem ok142 (n:Nat):FO 142 P142 R142 (F.zcc n):=zf WOf.st (zt3 _ n) (d:=8) fun _=>by kernel_rfl
noncomputable def o142 (n:Nat):=oc 142 P142 R142 (F.zcc n)
def qh33:Shape:=⟨[(0,.str),(2,(.const (.ref 0 0))),(3,(.const (.ref 1 0))),(4,.bool),(5,V0),(6,.str),(7,V0),(8,.bool)],[[.bool,V6,V0],[V0,V0]],[],[],[],2,0,0⟩
def qe33_0:Shape:=⟨[(0,.str),(2,(.const (.ref 0 0))),(3,(.const (.ref 1 0))),(4,.bool),(6,.str),(7,V0),(8,.bool)],[[.bool,V6,V0],[V0,V0]],[],[],[],2,0,0⟩
def qe33_r:Shape:=⟨[(2,(.const (.ref 0 0))),(3,(.const (.ref 1 0)))],[[.bool,V6,V0],[V0,V0]],[],[],[],2,0,0⟩
noncomputable def ql33 (X:Type) (n:Nat):LoopI X:=mkLi 8 0 0 0 qh33 [(0,qe33_0)] [qe33_r] n fun m ks=>F.zp.L8 n (xe qe33_0 ks 0) (xr qe33_r ks) m
noncomputable def cx72 (X:Type) (n:Nat):Cx X:=mkCx tab.get [(72,Tryz.f72)] [o81 n,o142 n] [(72,8,[ql33 X n])] [] [] []
theorem qo33 (X:Type) (n:Nat):LO (cx72 X n) 72 Tryz.f72 0 (ql33 X n):=lok
theorem zxa (X:Type) (n:Nat):CxOK Tryz.prog SW (cx72 X n):=mx (T1 (J Tryz.func72 (by decide))) (J (zb (ok81 n)) (T1 (zb (ok142 n)))) (T1 (okc (T1 (T1 (qo33 X n))) trivial)) trivial
abbrev P72:List SV:=[.str]
abbrev R72:RV:=.many [V7,V2]
theorem ok72 (n:Nat):FO 72 P72 R72 (F.zp n):=zf WOf.st (zxa _ n) (d:=8) fun _=>by kernel_rfl
noncomputable def o72 (n:Nat):=oc 72 P72 R72 (F.zp n)
noncomputable def cx88 (X:Type) (n:Nat):Cx X:=mkCx tab.get [(88,Tryz.f88)] [] [] [] [] []
theorem zxb (X:Type) (n:Nat):CxOK Tryz.prog SW (cx88 X n):=mx (T1 (J Tryz.func88 (by decide))) trivial (T1 (okc trivial trivial)) trivial
abbrev P88:List SV:=[V0]
abbrev R88:RV:=.one .str
theorem ok88 (n:Nat):FO 88 P88 R88 (F.zb6 n):=zf WOf.st (zxb _ n) (d:=8) fun _=>by kernel_rfl
noncomputable def o88 (n:Nat):=oc 88 P88 R88 (F.zb6 n)
def qh34:Shape:=⟨[(0,.str),(3,V0)],[],[],[],[],0,0,0⟩
def qe34_0:Shape:=⟨[],[],[],[],[],0,0,0⟩
def qe34_r:Shape:=⟨[(2,V0)],[],[],[],[],0,0,0⟩
noncomputable def ql34 (X:Type) (n:Nat):LoopI X:=mkLi 8 0 0 0 qh34 [(0,qe34_0)] [qe34_r] n fun m ks=>F.zan.L2 n (fun _=>xe qe34_0 ks 0) (xr qe34_r ks) m
noncomputable def cx73 (X:Type) (n:Nat):Cx X:=mkCx tab.get [(73,Tryz.f73)] [o88 n] [(73,2,[ql34 X n])] [] [] []
theorem qo34 (X:Type) (n:Nat):LO (cx73 X n) 73 Tryz.f73 0 (ql34 X n):=lok
theorem zxc (X:Type) (n:Nat):CxOK Tryz.prog SW (cx73 X n):=mx (T1 (J Tryz.func73 (by decide))) (T1 (zb (ok88 n))) (T1 (okc (T1 (T1 (qo34 X n))) trivial)) trivial
abbrev P73:List SV:=[.str]
abbrev R73:RV:=.one V0
theorem ok73 (n:Nat):FO 73 P73 R73 (F.zan n):=zf WOf.st (zxc _ n) (d:=8) fun _=>by kernel_rfl
noncomputable def o73 (n:Nat):=oc 73 P73 R73 (F.zan n)
def qh35:Shape:=⟨[(0,.str),(4,V0),(5,V0)],[],[],[],[],0,0,0⟩
def qe35_0:Shape:=⟨[(4,V0)],[],[],[],[],0,0,0⟩
def qe35_r:Shape:=⟨[(2,V0),(3,.bool)],[],[],[],[],0,0,0⟩
noncomputable def ql35 (X:Type) (n:Nat):LoopI X:=mkLi 8 0 0 0 qh35 [(0,qe35_0)] [qe35_r] n fun m ks=>F.z7.L3 n (xe qe35_0 ks 0) (xr qe35_r ks) m
noncomputable def cx144 (X:Type) (n:Nat):Cx X:=mkCx tab.get [(144,Tryz.f144)] [] [(144,3,[ql35 X n])] [] [] []
theorem qo35 (X:Type) (n:Nat):LO (cx144 X n) 144 Tryz.f144 0 (ql35 X n):=lok
theorem zt4 (X:Type) (n:Nat):CxOK Tryz.prog SW (cx144 X n):=mx (T1 (J Tryz.func144 (by decide))) trivial (T1 (okc (T1 (T1 (qo35 X n))) trivial)) trivial
abbrev P144:List SV:=[.str]
abbrev R144:RV:=.many [V0,.bool]
theorem ok144 (n:Nat):FO 144 P144 R144 (F.z7 n):=zf WOf.st (zt4 _ n) (d:=8) fun _=>by kernel_rfl
noncomputable def o144 (n:Nat):=oc 144 P144 R144 (F.z7 n)
def qh36:Shape:=⟨[(3,(.const (.ref 0 0))),(4,.str)],[[V0,V0]],[],[],[],1,0,0⟩
def qe36_0:Shape:=⟨[(3,(.const (.ref 0 0))),(4,.str)],[[V0,V0]],[],[],[],1,0,0⟩
noncomputable def ql36 (X:Type) (n:Nat):LoopI X:=mkLi 8 0 0 0 qh36 [(0,qe36_0)] [] n fun m ks=>F.zak.L17 n (xe qe36_0 ks 0) m
noncomputable def cx74 (X:Type) (n:Nat):Cx X:=mkCx tab.get [(74,Tryz.f74)] [o143 n,o144 n] [(74,17,[ql36 X n])] [] [] []
theorem qo36 (X:Type) (n:Nat):LO (cx74 X n) 74 Tryz.f74 0 (ql36 X n):=lok
theorem zxd (X:Type) (n:Nat):CxOK Tryz.prog SW (cx74 X n):=mx (T1 (J Tryz.func74 (by decide))) (J (zb (ok143 n)) (T1 (zb (ok144 n)))) (T1 (okc (T1 (T1 (qo36 X n))) trivial)) trivial
abbrev P74:List SV:=[.str]
abbrev R74:RV:=.many [V0,V2]
theorem ok74 (n:Nat):FO 74 P74 R74 (F.zak n):=zf WOf.st (zxd _ n) (d:=8) fun _=>by kernel_rfl
noncomputable def o74 (n:Nat):=oc 74 P74 R74 (F.zak n)
def qh37:Shape:=⟨[(0,.str),(2,(.const (.ref 0 0))),(3,(.const (.ref 1 0))),(8,V0),(10,(.const (.ref 3 0))),(11,V0),(12,V0),(145,.bool)],[[.str,V0,(.sl Y2 (.own 0)),V0,(.sl Y3 (.own 1)),V0],[V0,V0],[.bool,V6,V0],[.str,V0,(.sl Y2 (.own 2)),V0,(.sl Y3 (.own 3)),V0]],[true,true,true,true],[],[],4,0,0⟩
def qe37_r:Shape:=⟨[(2,(.const (.ref 0 0))),(3,(.const (.ref 1 0)))],[[.str,V0,V3,V0,V4,V0],[V0,V0]],[],[],[],2,0,0⟩
def qe37_n:Shape:=⟨[(0,.str),(2,(.const (.ref 0 0))),(3,(.const (.ref 1 0))),(10,(.const (.ref 3 0))),(11,V0),(12,V0)],[[.str,V0,(.sl Y2 (.own 0)),V0,(.sl Y3 (.own 1)),V0],[V0,V0],[.bool,V6,V0],[.str,V0,(.sl Y2 (.own 2)),V0,(.sl Y3 (.own 3)),V0]],[true,true,true,true],[],[],4,0,0⟩
noncomputable def ql37 (X:Type) (n:Nat):CutI X:=mkCi 8 0 0 0 qh37 [qe37_n] [] [qe37_r] fun ks=>F.zr.C26 n (xr qe37_r ks) (xn qe37_n ks)
def qh38:Shape:=⟨[(0,.str),(2,(.const (.ref 0 0))),(3,(.const (.ref 1 0))),(10,(.const (.ref 3 0))),(11,V0),(12,V0)],[[.str,V0,(.sl Y2 (.own 0)),V0,(.sl Y3 (.own 1)),V0],[V0,V0],[.bool,V6,V0],[.str,V0,(.sl Y2 (.own 2)),V0,(.sl Y3 (.own 3)),V0]],[true,true,true,true],[],[],4,0,0⟩
def qe38_r:Shape:=⟨[(2,(.const (.ref 0 0))),(3,(.const (.ref 1 0)))],[[.str,V0,V3,V0,V4,V0],[V0,V0]],[],[],[],2,0,0⟩
noncomputable def ql38 (X:Type) (n:Nat):CutI X:=mkCi 8 0 0 0 qh38 [] [] [qe38_r] fun ks=>F.zr.C27 n (xr qe38_r ks)
def qh39:Shape:=⟨[(0,.str),(2,(.const (.ref 0 0))),(3,(.const (.ref 1 0))),(4,V0),(6,(.const (.ref 2 0))),(8,V0),(9,V0)],[[.str,V0,(.sl Y2 (.own 0)),V0,(.sl Y3 (.own 1)),V0],[V0,V0],[.bool,V6,V0]],[true,true],[],[],3,0,0⟩
def qe39_r:Shape:=⟨[(2,(.const (.ref 0 0))),(3,(.const (.ref 1 0)))],[[.str,V0,V3,V0,V4,V0],[V0,V0]],[],[],[],2,0,0⟩
noncomputable def ql39 (X:Type) (n:Nat):CutI X:=mkCi 8 0 0 0 qh39 [] [] [qe39_r] fun ks=>F.zr.C18 n (xr qe39_r ks)
noncomputable def cx37 (X:Type) (n:Nat):Cx X:=mkCx tab.get [(37,Tryz.f37)] [o69 n,o70 n,o71 n,o72 n,o73 n,o74 n] [] [] [(37,18,[(4,7)])] [] [(37,18,[ql39 X n]),(37,26,[ql37 X n]),(37,27,[ql38 X n])]
theorem qo37 (X:Type) (n:Nat):CO (cx37 X n) 37 Tryz.f37 34 (ql37 X n):=fun _ _=>by kernel_rfl
theorem qo38 (X:Type) (n:Nat):CO (cx37 X n) 37 Tryz.f37 33 (ql38 X n):=fun _ _=>by kernel_rfl
theorem qo39 (X:Type) (n:Nat):CO (cx37 X n) 37 Tryz.f37 21 (ql39 X n):=fun _ _=>by kernel_rfl
theorem zxe (X:Type) (n:Nat):CxOK Tryz.prog SW (cx37 X n):=mx (T1 (J Tryz.func37 (by decide))) (J (zb (ok69 n)) (J (zb (ok70 n)) (J (zb (ok71 n)) (J (zb (ok72 n)) (J (zb (ok73 n)) (T1 (zb (ok74 n)))))))) (T1 (okk (J trivial (J trivial (J trivial (J trivial (J trivial (J trivial (J trivial (J trivial (J trivial (J trivial (J trivial (J trivial (J trivial (J trivial (J trivial (J trivial (J trivial (J trivial (J trivial (J trivial (J trivial (J (T1 (qo39 X n)) (J trivial (J trivial (J trivial (J trivial (J trivial (J trivial (J trivial (J trivial (J trivial (J trivial (J trivial (J (T1 (qo38 X n)) (J (T1 (qo37 X n)) (J trivial (J trivial (J trivial (J trivial (J trivial (T1 trivial))))))))))))))))))))))))))))))))))))))))) trivial trivial)) trivial
abbrev P37:List SV:=[.str]
abbrev R37:RV:=.many [V5,V2]
theorem ok37 (n:Nat):FO 37 P37 R37 (F.zr n):=zf WOf.st (zxe _ n) (d:=8) fun _=>by kernel_rfl
noncomputable def o37 (n:Nat):=oc 37 P37 R37 (F.zr n)
def qh40:Shape:=⟨[(0,.str),(1,.str),(5,V0)],[],[],[],[],0,0,0⟩
def qe40_0:Shape:=⟨[(0,.str),(1,.str)],[],[],[],[],0,0,0⟩
def qe40_r:Shape:=⟨[(4,.bool)],[],[],[],[],0,0,0⟩
noncomputable def ql40 (X:Type) (n:Nat):LoopI X:=mkLi 8 0 0 0 qh40 [(0,qe40_0)] [qe40_r] n fun m ks=>F.z8.L2 n (xe qe40_0 ks 0) (xr qe40_r ks) m
noncomputable def cx150 (X:Type) (n:Nat):Cx X:=mkCx tab.get [(150,Tryz.f150)] [] [(150,2,[ql40 X n])] [] [] []
theorem qo40 (X:Type) (n:Nat):LO (cx150 X n) 150 Tryz.f150 0 (ql40 X n):=lok
theorem zt5 (X:Type) (n:Nat):CxOK Tryz.prog SW (cx150 X n):=mx (T1 (J Tryz.func150 (by decide))) trivial (T1 (okc (T1 (T1 (qo40 X n))) trivial)) trivial
abbrev P150:List SV:=[.str,.str]
abbrev R150:RV:=.one .bool
theorem ok150 (n:Nat):FO 150 P150 R150 (F.z8 n):=zf WOf.st (zt5 _ n) (d:=8) fun _=>by kernel_rfl
noncomputable def o150 (n:Nat):=oc 150 P150 R150 (F.z8 n)
noncomputable def cx85 (X:Type) (n:Nat):Cx X:=mkCx tab.get [(85,Tryz.f85)] [o150 n] [] [] [] []
theorem zxf (X:Type) (n:Nat):CxOK Tryz.prog SW (cx85 X n):=mx (T1 (J Tryz.func85 (by decide))) (T1 (zb (ok150 n))) (T1 (okc trivial trivial)) trivial
abbrev P85:List SV:=[V11,V11]
abbrev R85:RV:=.one .bool
theorem ok85 (n:Nat):FO 85 P85 R85 (F.zcl n):=zf WOf.st (zxf _ n) (d:=8) fun _=>by kernel_rfl
noncomputable def o85 (n:Nat):=oc 85 P85 R85 (F.zcl n)
def qh41:Shape:=⟨[(0,V4),(3,(.sl Y3 (.own 0))),(4,V0),(5,(.sl Y3 (.own 1))),(6,.bool),(7,V0)],[],[true,true],[],[],0,0,0⟩
def qe41_2:Shape:=⟨[(0,V4),(4,V0),(5,(.sl Y3 (.own 0))),(6,.bool)],[],[true],[],[],0,0,0⟩
noncomputable def ql41 (X:Type) (n:Nat):LoopI X:=mkLi 8 0 0 0 qh41 [(2,qe41_2)] [] n fun m ks=>F.zh.L8 n (xe qe41_2 ks 2) m
def qh42:Shape:=⟨[(0,V4),(3,(.sl Y3 (.own 0))),(4,V0)],[],[true],[],[],0,0,0⟩
def qe42_0:Shape:=⟨[(3,(.sl Y3 (.own 0)))],[],[true],[],[],0,0,0⟩
noncomputable def ql42 (X:Type) (n:Nat):LoopI X:=mkLi 8 0 0 0 qh42 [(0,qe42_0)] [] n fun m ks=>F.zh.L3 n (xe qe42_0 ks 0) m
noncomputable def cx42 (X:Type) (n:Nat):Cx X:=mkCx tab.get [(42,Tryz.f42)] [o85 n] [(42,3,[ql42 X n]),(42,8,[ql41 X n])] [] [] []
theorem qo41 (X:Type) (n:Nat):LO (cx42 X n) 42 Tryz.f42 1 (ql41 X n):=lok
theorem qo42 (X:Type) (n:Nat):LO (cx42 X n) 42 Tryz.f42 0 (ql42 X n):=lok
theorem zxg (X:Type) (n:Nat):CxOK Tryz.prog SW (cx42 X n):=mx (T1 (J Tryz.func42 (by decide))) (T1 (zb (ok85 n))) (T1 (okc (J (T1 (qo42 X n)) (T1 (T1 (qo41 X n)))) trivial)) trivial
abbrev P42:List SV:=[V4]
abbrev R42:RV:=.one V4
theorem ok42 (n:Nat):FO 42 P42 R42 (F.zh n):=zf WOf.st (zxg _ n) (d:=8) fun _=>by kernel_rfl
noncomputable def o42 (n:Nat):=oc 42 P42 R42 (F.zh n)
def qh43:Shape:=⟨[(0,.str),(1,V1),(2,V0),(7,(.ms 1 Y7)),(8,V0)],[[(.row Y7)],[(.row Y7)]],[],[],[],2,0,0⟩
def qe43_0:Shape:=⟨[(7,(.ms 1 Y7))],[[(.row Y7)],[(.row Y7)]],[],[],[],2,0,0⟩
noncomputable def ql43 (X:Type) (n:Nat):LoopI X:=mkLi 8 0 0 0 qh43 [(0,qe43_0)] [] n fun m ks=>F.zat.L3 n (xe qe43_0 ks 0) m
noncomputable def cx75 (X:Type) (n:Nat):Cx X:=mkCx tab.get [(75,Tryz.f75)] [] [(75,3,[ql43 X n])] [] [] [] [] [(107,Y7)]
theorem qo43 (X:Type) (n:Nat):LO (cx75 X n) 75 Tryz.f75 0 (ql43 X n):=lok
theorem zxh (X:Type) (n:Nat):CxOK Tryz.prog SW (cx75 X n):=mx (T1 (J Tryz.func75 (by decide))) trivial (T1 (okc (T1 (T1 (qo43 X n))) trivial)) trivial
abbrev P75:List SV:=[.str,V1,V0]
abbrev R75:RV:=.one V15
theorem ok75 (n:Nat):FO 75 P75 R75 (F.zat n):=zf WOf.st (zxh _ n) (d:=8) fun _=>by kernel_rfl
noncomputable def o75 (n:Nat):=oc 75 P75 R75 (F.zat n)
noncomputable def cx90 (X:Type) (n:Nat):Cx X:=mkCx tab.get [(90,Tryz.f90)] [] [] [] [] []
theorem zxi (X:Type) (n:Nat):CxOK Tryz.prog SW (cx90 X n):=mx (T1 (J Tryz.func90 (by decide))) trivial (T1 (okc trivial trivial)) trivial
abbrev P90:List SV:=[]
abbrev R90:RV:=.one V9
theorem ok90 (n:Nat):FO 90 P90 R90 (F.zbz n):=zf WOf.st (zxi _ n) (d:=8) fun _=>by kernel_rfl
noncomputable def o90 (n:Nat):=oc 90 P90 R90 (F.zbz n)
def qh44:Shape:=⟨[(0,.str),(3,V9),(4,V0)],[],[],[],[],0,0,0⟩
def qe44_0:Shape:=⟨[],[],[],[],[],0,0,0⟩
def qe44_r:Shape:=⟨[(2,V0)],[],[],[],[],0,0,0⟩
noncomputable def ql44 (X:Type) (n:Nat):LoopI X:=mkLi 8 0 0 0 qh44 [(0,qe44_0)] [qe44_r] n fun m ks=>F.za6.L3 n (fun _=>xe qe44_0 ks 0) (xr qe44_r ks) m
noncomputable def cx77 (X:Type) (n:Nat):Cx X:=mkCx tab.get [(77,Tryz.f77)] [o90 n] [(77,3,[ql44 X n])] [] [] []
theorem qo44 (X:Type) (n:Nat):LO (cx77 X n) 77 Tryz.f77 0 (ql44 X n):=lok
theorem zxj (X:Type) (n:Nat):CxOK Tryz.prog SW (cx77 X n):=mx (T1 (J Tryz.func77 (by decide))) (T1 (zb (ok90 n))) (T1 (okc (T1 (T1 (qo44 X n))) trivial)) trivial
abbrev P77:List SV:=[.str]
abbrev R77:RV:=.one V0
theorem ok77 (n:Nat):FO 77 P77 R77 (F.za6 n):=zf WOf.st (zxj _ n) (d:=8) fun _=>by kernel_rfl
noncomputable def o77 (n:Nat):=oc 77 P77 R77 (F.za6 n)
noncomputable def cx146 (X:Type) (n:Nat):Cx X:=mkCx tab.get [(146,Tryz.f146)] [o143 n,o144 n] [] [] [] []
theorem zt6 (X:Type) (n:Nat):CxOK Tryz.prog SW (cx146 X n):=mx (T1 (J Tryz.func146 (by decide))) (J (zb (ok143 n)) (T1 (zb (ok144 n)))) (T1 (okc trivial trivial)) trivial
abbrev P146:List SV:=[.str,V0,V0]
abbrev R146:RV:=.many [V0,V2]
theorem ok146 (n:Nat):FO 146 P146 R146 (F.zcd n):=zf WOf.st (zt6 _ n) (d:=8) fun _=>by kernel_rfl
noncomputable def o146 (n:Nat):=oc 146 P146 R146 (F.zcd n)
noncomputable def cx80 (X:Type) (n:Nat):Cx X:=mkCx tab.get [(80,Tryz.f80)] [o146 n] [] [] [] []
theorem zxk (X:Type) (n:Nat):CxOK Tryz.prog SW (cx80 X n):=mx (T1 (J Tryz.func80 (by decide))) (T1 (zb (ok146 n))) (T1 (okc trivial trivial)) trivial
abbrev P80:List SV:=[.str]
abbrev R80:RV:=.many [V0,V2]
theorem ok80 (n:Nat):FO 80 P80 R80 (F.zbq n):=zf WOf.st (zxk _ n) (d:=8) fun _=>by kernel_rfl
noncomputable def o80 (n:Nat):=oc 80 P80 R80 (F.zbq n)
def qh45:Shape:=⟨[(0,.str),(3,V0)],[],[],[],[],0,0,0⟩
def qe45_0:Shape:=⟨[(0,.str)],[],[],[],[],0,0,0⟩
def qe45_r:Shape:=⟨[(2,.bool)],[],[],[],[],0,0,0⟩
noncomputable def ql45 (X:Type) (n:Nat):LoopI X:=mkLi 8 0 0 0 qh45 [(0,qe45_0)] [qe45_r] n fun m ks=>F.zae.L2 n (xe qe45_0 ks 0) (xr qe45_r ks) m
noncomputable def cx83 (X:Type) (n:Nat):Cx X:=mkCx tab.get [(83,Tryz.f83)] [] [(83,2,[ql45 X n])] [] [] []
theorem qo45 (X:Type) (n:Nat):LO (cx83 X n) 83 Tryz.f83 0 (ql45 X n):=lok
theorem zxl (X:Type) (n:Nat):CxOK Tryz.prog SW (cx83 X n):=mx (T1 (J Tryz.func83 (by decide))) trivial (T1 (okc (T1 (T1 (qo45 X n))) trivial)) trivial
abbrev P83:List SV:=[.str]
abbrev R83:RV:=.one .bool
theorem ok83 (n:Nat):FO 83 P83 R83 (F.zae n):=zf WOf.st (zxl _ n) (d:=8) fun _=>by kernel_rfl
noncomputable def o83 (n:Nat):=oc 83 P83 R83 (F.zae n)
noncomputable def cx149 (X:Type) (n:Nat):Cx X:=mkCx tab.get [(149,Tryz.f149)] [o141 n] [] [] [] []
theorem zt7 (X:Type) (n:Nat):CxOK Tryz.prog SW (cx149 X n):=mx (T1 (J Tryz.func149 (by decide))) (T1 (zb (ok141 n))) (T1 (okc trivial trivial)) trivial
abbrev P149:List SV:=[V11]
abbrev R149:RV:=.one .bool
theorem ok149 (n:Nat):FO 149 P149 R149 (F.zbd n):=zf WOf.st (zt7 _ n) (d:=8) fun _=>by kernel_rfl
noncomputable def o149 (n:Nat):=oc 149 P149 R149 (F.zbd n)
noncomputable def cx152 (X:Type) (n:Nat):Cx X:=mkCx tab.get [(152,Tryz.f152)] [] [] [] [] []
theorem zt8 (X:Type) (n:Nat):CxOK Tryz.prog SW (cx152 X n):=mx (T1 (J Tryz.func152 (by decide))) trivial (T1 (okc trivial trivial)) trivial
abbrev P152:List SV:=[V11]
abbrev R152:RV:=.one .str
theorem ok152 (n:Nat):FO 152 P152 R152 (F.zbn n):=zf WOf.st (zt8 _ n) (d:=8) fun _=>by kernel_rfl
noncomputable def o152 (n:Nat):=oc 152 P152 R152 (F.zbn n)
def qh46:Shape:=⟨[(0,.str),(3,(.const (.ref 0 0))),(4,(.sl Y3 (.own 0))),(5,V0),(6,V0),(7,.str),(8,(.const (.ref 1 0))),(9,V0)],[[V0,V0],[.str,.str]],[true],[],[],2,0,0⟩
def qe46_2:Shape:=⟨[(0,.str),(3,(.const (.ref 0 0))),(4,(.sl Y3 (.own 0))),(5,V0),(6,V0),(7,.str),(8,(.const (.ref 1 0)))],[[V0,V0],[.str,.str]],[true],[],[],2,0,0⟩
noncomputable def ql46 (X:Type) (n:Nat):LoopI X:=mkLi 8 0 0 0 qh46 [(2,qe46_2)] [] n fun m ks=>F.zk.L10 n (xe qe46_2 ks 2) m
def qh47:Shape:=⟨[(0,.str),(3,(.const (.ref 0 0))),(4,(.sl Y3 (.own 0))),(5,V0),(6,V0)],[[V0,V0]],[true],[],[],1,0,0⟩
def qe47_0:Shape:=⟨[(3,(.const (.ref 0 0))),(4,(.sl Y3 (.own 0)))],[[V0,V0]],[true],[],[],1,0,0⟩
def qe47_r:Shape:=⟨[(2,(.sl Y3 (.own 0))),(3,(.const (.ref 0 0)))],[[V0,V0]],[true],[],[],1,0,0⟩
noncomputable def ql47 (X:Type) (n:Nat):LoopI X:=mkLi 8 0 0 0 qh47 [(0,qe47_0)] [qe47_r] n fun m ks=>F.zk.L4 n (xe qe47_0 ks 0) (xr qe47_r ks) m
noncomputable def cx145 (X:Type) (n:Nat):Cx X:=mkCx tab.get [(145,Tryz.f145)] [o149 n,o152 n] [(145,4,[ql47 X n]),(145,10,[ql46 X n])] [] [] []
theorem qo46 (X:Type) (n:Nat):LO (cx145 X n) 145 Tryz.f145 1 (ql46 X n):=lok
theorem qo47 (X:Type) (n:Nat):LO (cx145 X n) 145 Tryz.f145 0 (ql47 X n):=lok
theorem zt9 (X:Type) (n:Nat):CxOK Tryz.prog SW (cx145 X n):=mx (T1 (J Tryz.func145 (by decide))) (J (zb (ok149 n)) (T1 (zb (ok152 n)))) (T1 (okc (J (T1 (qo47 X n)) (T1 (T1 (qo46 X n)))) trivial)) trivial
abbrev P145:List SV:=[.str]
abbrev R145:RV:=.many [V4,V2]
theorem ok145 (n:Nat):FO 145 P145 R145 (F.zk n):=zf WOf.st (zt9 _ n) (d:=8) fun _=>by kernel_rfl
noncomputable def o145 (n:Nat):=oc 145 P145 R145 (F.zk n)
def qh48:Shape:=⟨[(2,(.const (.ref 0 0))),(3,(.const (.ref 1 0))),(4,(.const (.ref 2 0))),(5,V15),(6,(.const (.ref 3 0))),(8,V0),(9,V0),(10,V0),(11,V0)],[[.str,V0,(.sl Y2 (.own 0)),V0,(.sl Y3 (.own 1)),V0],[V0,V0],[.str,V0,(.sl Y2 (.own 2)),V0,(.sl Y3 (.own 3)),V0],[.str,V0,(.sl Y2 (.own 4)),V0,V4,V0],[V0,.str],[V0,V0],[V0,V0]],[true,true,true,true,true],[],[],7,0,0⟩
def qe48_r:Shape:=⟨[(2,(.const (.ref 0 0))),(3,(.const (.ref 1 0)))],[[.str,V0,(.sl Y2 (.own 0)),V0,(.sl Y3 (.own 1)),V0],[V0,V0],[.str,V0,(.sl Y2 (.own 2)),V0,(.sl Y3 (.own 3)),V0],[.str,V0,(.sl Y2 (.own 4)),V0,V4,V0],[V0,.str],[V0,V0],[V0,V0]],[true,true,false,false,true],[],[],7,0,0⟩
def qe48_n:Shape:=⟨[(2,(.const (.ref 0 0))),(3,(.const (.ref 1 0))),(4,(.const (.ref 2 0))),(5,V15),(6,(.const (.ref 3 0))),(8,V0),(9,V0)],[[.str,V0,(.sl Y2 (.own 0)),V0,(.sl Y3 (.own 1)),V0],[V0,V0],[.str,V0,(.sl Y2 (.own 2)),V0,(.sl Y3 (.own 3)),V0],[.str,V0,(.sl Y2 (.own 4)),V0,V4,V0],[V0,.str],[V0,V0],[V0,V0]],[true,true,true,true,true],[],[],7,0,0⟩
noncomputable def ql48 (X:Type) (n:Nat):CutI X:=mkCi 8 0 0 0 qh48 [qe48_n] [] [qe48_r] fun ks=>F.za.C19 n (xr qe48_r ks) (xn qe48_n ks)
def qh49:Shape:=⟨[(2,(.const (.ref 0 0))),(3,(.const (.ref 1 0))),(4,(.const (.ref 2 0))),(5,V15),(6,(.const (.ref 3 0))),(8,V0),(9,V0)],[[.str,V0,(.sl Y2 (.own 0)),V0,(.sl Y3 (.own 1)),V0],[V0,V0],[.str,V0,(.sl Y2 (.own 2)),V0,(.sl Y3 (.own 3)),V0],[.str,V0,(.sl Y2 (.own 4)),V0,V4,V0],[V0,.str],[V0,V0],[V0,V0]],[true,true,true,true,true],[],[],7,0,0⟩
def qe49_0:Shape:=⟨[(2,(.const (.ref 0 0))),(3,(.const (.ref 1 0))),(6,(.const (.ref 3 0)))],[[.str,V0,(.sl Y2 (.own 0)),V0,(.sl Y3 (.own 1)),V0],[V0,V0],[.str,V0,(.sl Y2 (.own 2)),V0,(.sl Y3 (.own 3)),V0],[.str,V0,(.sl Y2 (.own 4)),V0,V4,V0],[V0,.str],[V0,V0],[V0,V0]],[true,true,true,true,true],[],[],7,0,0⟩
def qe49_r:Shape:=⟨[(2,(.const (.ref 0 0))),(3,(.const (.ref 1 0)))],[[.str,V0,(.sl Y2 (.own 0)),V0,(.sl Y3 (.own 1)),V0],[V0,V0],[.str,V0,(.sl Y2 (.own 2)),V0,(.sl Y3 (.own 3)),V0],[.str,V0,(.sl Y2 (.own 4)),V0,V4,V0],[V0,.str],[V0,V0],[V0,V0]],[true,true,false,false,true],[],[],7,0,0⟩
noncomputable def ql49 (X:Type) (n:Nat):LoopI X:=mkLi 8 0 0 0 qh49 [(0,qe49_0)] [qe49_r] n fun m ks=>F.za.L16 n (xe qe49_0 ks 0) (xr qe49_r ks) m
def qh50:Shape:=⟨[(0,.str),(2,(.const (.ref 0 0))),(3,(.const (.ref 1 0))),(4,(.const (.ref 2 0))),(5,V15),(6,(.const (.ref 3 0))),(7,(.const (.ref 6 0)))],[[.str,V0,(.sl Y2 (.own 0)),V0,(.sl Y3 (.own 1)),V0],[V0,V0],[.str,V0,(.sl Y2 (.own 2)),V0,(.sl Y3 (.own 3)),V0],[.str,V0,(.sl Y2 (.own 4)),V0,(.sl Y3 (.own 5)),V0],[V0,.str],[V0,V0],[V0,V0]],[true,true,true,true,true,true],[],[],7,0,0⟩
def qe50_r:Shape:=⟨[(2,(.const (.ref 0 0))),(3,(.const (.ref 1 0)))],[[.str,V0,(.sl Y2 (.own 0)),V0,V4,V0],[V0,V0]],[true],[],[],2,0,0⟩
noncomputable def ql50 (X:Type) (n:Nat):CutI X:=mkCi 8 0 0 0 qh50 [] [] [qe50_r] fun ks=>F.za.C7 n (xr qe50_r ks)
def qh51:Shape:=⟨[(1,(.const (.ref 3 0))),(4,(.const (.ref 5 0))),(5,V15),(6,V0)],[[.str,V0,(.sl Y2 (.own 0)),V0,(.sl Y3 (.own 1)),V0],[V0,V0],[.str,V0,(.sl Y2 (.own 2)),V0,(.sl Y3 (.own 3)),V0],[.str,V0,(.sl Y2 (.own 4)),V0,(.sl Y3 (.own 5)),V0],[V0,.str],[V0,V0]],[true,true,true,true,true,true],[],[],6,0,0⟩
def qe51_0:Shape:=⟨[(4,(.const (.ref 5 0)))],[[.str,V0,(.sl Y2 (.own 0)),V0,(.sl Y3 (.own 1)),V0],[V0,V0],[.str,V0,(.sl Y2 (.own 2)),V0,(.sl Y3 (.own 3)),V0],[.str,V0,(.sl Y2 (.own 4)),V0,(.sl Y3 (.own 5)),V0],[V0,.str],[V0,V0]],[true,true,true,true,true,true],[],[],6,0,0⟩
def qe51_r:Shape:=⟨[(4,(.const (.ref 5 0)))],[[.str,V0,(.sl Y2 (.own 0)),V0,(.sl Y3 (.own 1)),V0],[V0,V0],[.str,V0,(.sl Y2 (.own 2)),V0,(.sl Y3 (.own 3)),V0],[.str,V0,(.sl Y2 (.own 4)),V0,(.sl Y3 (.own 5)),V0],[V0,.str],[V0,V0]],[true,true,true,true,true,true],[],[],6,0,0⟩
noncomputable def ql51 (X:Type) (n:Nat):LoopI X:=mkLi 7 4 0 0 qh51 [(0,qe51_0)] [qe51_r] n fun m ks=>F.za.L8_ref11_First n (xe qe51_0 ks 0) (xr qe51_r ks) m
noncomputable def cx38 (X:Type) (n:Nat):Cx X:=mkCx tab.get [(38,Tryz.f38),(76,Tryz.f76),(78,Tryz.f78)] [o42 n,o72 n,o74 n,o75 n,o77 n,o80 n,o83 n,o145 n] [(38,16,[ql49 X n]),(76,8,[ql51 X n])] [] [(38,8,[(1,2)]),(38,13,[(4,6)]),(38,22,[(6,8)])] [] [(38,7,[ql50 X n]),(38,19,[ql48 X n])]
theorem qo48 (X:Type) (n:Nat):CO (cx38 X n) 38 Tryz.f38 24 (ql48 X n):=fun _ _=>by kernel_rfl
theorem qo50 (X:Type) (n:Nat):CO (cx38 X n) 38 Tryz.f38 7 (ql50 X n):=fun _ _=>by kernel_rfl
theorem qo49 (X:Type) (n:Nat):LO (cx38 X n) 38 Tryz.f38 0 (ql49 X n):=lok
theorem qo51 (X:Type) (n:Nat):LO (cx38 X n) 76 Tryz.f76 0 (ql51 X n):=lok
theorem zxm (X:Type) (n:Nat):CxOK Tryz.prog SW (cx38 X n):=mx (J (J Tryz.func38 (by decide)) (J (J Tryz.func76 (by decide)) (T1 (J Tryz.func78 (by decide))))) (J (zb (ok42 n)) (J (zb (ok72 n)) (J (zb (ok74 n)) (J (zb (ok75 n)) (J (zb (ok77 n)) (J (zb (ok80 n)) (J (zb (ok83 n)) (T1 (zb (ok145 n)))))))))) (J (okk (J trivial (J trivial (J trivial (J trivial (J trivial (J trivial (J trivial (J (T1 (qo50 X n)) (J trivial (J trivial (J trivial (J trivial (J trivial (J trivial (J trivial (J trivial (J trivial (J trivial (J trivial (J trivial (J trivial (J trivial (J trivial (J trivial (J (T1 (qo48 X n)) (J trivial (J trivial (J trivial (J trivial (J trivial (T1 trivial))))))))))))))))))))))))))))))) (T1 (T1 (qo49 X n))) trivial) (J (okc (T1 (T1 (qo51 X n))) trivial) (T1 (okc trivial trivial)))) trivial
abbrev P38:List SV:=[.str]
abbrev R38:RV:=.many [V5,V2]
theorem ok38 (n:Nat):FO 38 P38 R38 (F.za n):=zf WOf.st (zxm _ n) (d:=8) fun _=>by kernel_rfl
noncomputable def o38 (n:Nat):=oc 38 P38 R38 (F.za n)
noncomputable def cx79 (X:Type) (n:Nat):Cx X:=mkCx tab.get [(79,Tryz.f79)] [] [] [] [] []
theorem zxn (X:Type) (n:Nat):CxOK Tryz.prog SW (cx79 X n):=mx (T1 (J Tryz.func79 (by decide))) trivial (T1 (okc trivial trivial)) trivial
abbrev P79:List SV:=[V0,V0]
abbrev R79:RV:=.many [V5,V2]
theorem ok79 (n:Nat):FO 79 P79 R79 (F.zbj n):=zf WOf.st (zxn _ n) (d:=8) fun _=>by kernel_rfl
noncomputable def o79 (n:Nat):=oc 79 P79 R79 (F.zbj n)
noncomputable def cx39 (X:Type) (n:Nat):Cx X:=mkCx tab.get [(39,Tryz.f39)] [o69 n,o70 n,o72 n,o79 n,o80 n] [] [] [] []
theorem zxo (X:Type) (n:Nat):CxOK Tryz.prog SW (cx39 X n):=mx (T1 (J Tryz.func39 (by decide))) (J (zb (ok69 n)) (J (zb (ok70 n)) (J (zb (ok72 n)) (J (zb (ok79 n)) (T1 (zb (ok80 n))))))) (T1 (okc trivial trivial)) trivial
abbrev P39:List SV:=[.str]
abbrev R39:RV:=.many [V5,V2]
theorem ok39 (n:Nat):FO 39 P39 R39 (F.zce n):=zf WOf.st (zxo _ n) (d:=8) fun _=>by kernel_rfl
noncomputable def o39 (n:Nat):=oc 39 P39 R39 (F.zce n)
noncomputable def cx16 (X:Type) (n:Nat):Cx X:=mkCx tab.get [(16,Tryz.f16)] [o18 n,o37 n,o38 n,o39 n] [] [] [] []
theorem zxp (X:Type) (n:Nat):CxOK Tryz.prog SW (cx16 X n):=mx (T1 (J Tryz.func16 (by decide))) (J (zb (ok18 n)) (J (zb (ok37 n)) (J (zb (ok38 n)) (T1 (zb (ok39 n)))))) (T1 (okc trivial trivial)) trivial
abbrev P16:List SV:=[.str,V0]
abbrev R16:RV:=.many [V5,V2]
theorem ok16 (n:Nat):FO 16 P16 R16 (F.zcf n):=zf WOf.st (zxp _ n) (d:=8) fun _=>by kernel_rfl
noncomputable def o16 (n:Nat):=oc 16 P16 R16 (F.zcf n)
def qh54:Shape:=⟨[(2,(.const (.ref 0 0))),(3,(.const (.ref 1 0))),(5,V0)],[[.str,V0,V3,V0,V4,V0],[.str,V0,V3,V0,V4,V0]],[],[],[],2,0,0⟩
def qe54_0:Shape:=⟨[(2,(.const (.ref 0 0))),(3,(.const (.ref 1 0)))],[[.str,V0,V3,V0,V4,V0],[.str,V0,V3,V0,V4,V0]],[],[],[],2,0,0⟩
def qe54_r:Shape:=⟨[(4,.bool)],[[.str,V0,V3,V0,V4,V0],[.str,V0,V3,V0,V4,V0]],[],[],[],2,0,0⟩
noncomputable def ql54 (X:Type) (n:Nat):LoopI X:=mkLi 8 0 0 0 qh54 [(0,qe54_0)] [qe54_r] n fun m ks=>F.zj.L4 n (xe qe54_0 ks 0) (xr qe54_r ks) m
def qh55:Shape:=⟨[(2,(.const (.ref 0 0))),(3,(.const (.ref 1 0))),(6,V0)],[[.str,V0,V3,V0,V4,V0],[.str,V0,V3,V0,V4,V0]],[],[],[],2,0,0⟩
def qe55_2:Shape:=⟨[],[[.str,V0,V3,V0,V4,V0],[.str,V0,V3,V0,V4,V0]],[],[],[],2,0,0⟩
def qe55_r:Shape:=⟨[(4,.bool)],[[.str,V0,V3,V0,V4,V0],[.str,V0,V3,V0,V4,V0]],[],[],[],2,0,0⟩
noncomputable def ql55 (X:Type) (n:Nat):LoopI X:=mkLi 8 0 0 0 qh55 [(2,qe55_2)] [qe55_r] n fun m ks=>F.zj.L9 n (xe qe55_2 ks 2) (xr qe55_r ks) m
noncomputable def cx17 (X:Type) (n:Nat):Cx X:=mkCx tab.get [(17,Tryz.f17)] [] [(17,4,[ql54 X n]),(17,9,[ql55 X n])] [] [] []
theorem qo54 (X:Type) (n:Nat):LO (cx17 X n) 17 Tryz.f17 0 (ql54 X n):=lok
theorem qo55 (X:Type) (n:Nat):LO (cx17 X n) 17 Tryz.f17 1 (ql55 X n):=lok
theorem zxq (X:Type) (n:Nat):CxOK Tryz.prog SW (cx17 X n):=mx (T1 (J Tryz.func17 (by decide))) trivial (T1 (okc (J (T1 (qo54 X n)) (T1 (T1 (qo55 X n)))) trivial)) trivial
abbrev P17:List SV:=[V5,V5]
abbrev R17:RV:=.one .bool
theorem ok17 (n:Nat):FO 17 P17 R17 (F.zj n):=zf WOf.st (zxq _ n) (d:=8) fun _=>by kernel_rfl
noncomputable def o17 (n:Nat):=oc 17 P17 R17 (F.zj n)
def qh57:Shape:=⟨[(1,(.const (.ref 0 0))),(3,V0)],[[.str,V0,V3,V0,V4,V0]],[],[],[],1,0,0⟩
def qe57_0:Shape:=⟨[(1,(.const (.ref 0 0)))],[[.str,V0,V3,V0,V4,V0]],[],[],[],1,0,0⟩
def qe57_r:Shape:=⟨[(2,.bool)],[[.str,V0,V3,V0,V4,V0]],[],[],[],1,0,0⟩
noncomputable def ql57 (X:Type) (n:Nat):LoopI X:=mkLi 8 0 0 0 qh57 [(0,qe57_0)] [qe57_r] n fun m ks=>F.zaa.L2 n (xe qe57_0 ks 0) (xr qe57_r ks) m
noncomputable def cx13 (X:Type) (n:Nat):Cx X:=mkCx tab.get [(13,Tryz.f13)] [] [(13,2,[ql57 X n])] [] [] []
theorem qo57 (X:Type) (n:Nat):LO (cx13 X n) 13 Tryz.f13 0 (ql57 X n):=lok
theorem zxr (X:Type) (n:Nat):CxOK Tryz.prog SW (cx13 X n):=mx (T1 (J Tryz.func13 (by decide))) trivial (T1 (okc (T1 (T1 (qo57 X n))) trivial)) trivial
abbrev P13:List SV:=[V5]
abbrev R13:RV:=.one .bool
theorem ok13 (n:Nat):FO 13 P13 R13 (F.zaa n):=zf WOf.st (zxr _ n) (d:=8) fun _=>by kernel_rfl
noncomputable def o13 (n:Nat):=oc 13 P13 R13 (F.zaa n)
noncomputable def cx97 (X:Type) (n:Nat):Cx X:=mkCx tab.get [(97,Tryz.f97)] [o114 n] [] [] [] []
theorem zxs (X:Type) (n:Nat):CxOK Tryz.prog SW (cx97 X n):=mx (T1 (J Tryz.func97 (by decide))) (T1 (zb (ok114 n))) (T1 (okc trivial trivial)) trivial
abbrev P97:List SV:=[V5]
abbrev R97:RV:=.one .bool
theorem ok97 (n:Nat):FO 97 P97 R97 (F.zbe n):=zf WOf.st (zxs _ n) (d:=8) fun _=>by kernel_rfl
noncomputable def o97 (n:Nat):=oc 97 P97 R97 (F.zbe n)
noncomputable def cx156 (X:Type) (n:Nat):Cx X:=mkCx tab.get [(156,Tryz.f156)] [] [] [] [] []
theorem zua (X:Type) (n:Nat):CxOK Tryz.prog SW (cx156 X n):=mx (T1 (J Tryz.func156 (by decide))) trivial (T1 (okc trivial trivial)) trivial
abbrev P156:List SV:=[V0,V0,V0]
abbrev R156:RV:=.one .bool
theorem ok156 (n:Nat):FO 156 P156 R156 (F.zba n):=zf WOf.st (zua _ n) (d:=8) fun _=>by kernel_rfl
noncomputable def o156 (n:Nat):=oc 156 P156 R156 (F.zba n)
noncomputable def cx98 (X:Type) (n:Nat):Cx X:=mkCx tab.get [(98,Tryz.f98)] [o156 n] [] [] [] []
theorem zxt (X:Type) (n:Nat):CxOK Tryz.prog SW (cx98 X n):=mx (T1 (J Tryz.func98 (by decide))) (T1 (zb (ok156 n))) (T1 (okc trivial trivial)) trivial
abbrev P98:List SV:=[V5]
abbrev R98:RV:=.one .bool
theorem ok98 (n:Nat):FO 98 P98 R98 (F.zbf n):=zf WOf.st (zxt _ n) (d:=8) fun _=>by kernel_rfl
noncomputable def o98 (n:Nat):=oc 98 P98 R98 (F.zbf n)
noncomputable def cx159 (X:Type) (n:Nat):Cx X:=mkCx tab.get [(159,Tryz.f159)] [o67 n] [] [] [] []
theorem zub (X:Type) (n:Nat):CxOK Tryz.prog SW (cx159 X n):=mx (T1 (J Tryz.func159 (by decide))) (T1 (zb (ok67 n))) (T1 (okc trivial trivial)) trivial
abbrev P159:List SV:=[V7]
abbrev R159:RV:=.one V0
theorem ok159 (n:Nat):FO 159 P159 R159 (F.zb3 n):=zf WOf.st (zub _ n) (d:=8) fun _=>by kernel_rfl
noncomputable def o159 (n:Nat):=oc 159 P159 R159 (F.zb3 n)
noncomputable def cx158 (X:Type) (n:Nat):Cx X:=mkCx tab.get [(158,Tryz.f158)] [o159 n] [] [] [] []
theorem zuc (X:Type) (n:Nat):CxOK Tryz.prog SW (cx158 X n):=mx (T1 (J Tryz.func158 (by decide))) (T1 (zb (ok159 n))) (T1 (okc trivial trivial)) trivial
abbrev P158:List SV:=[V7]
abbrev R158:RV:=.one .bool
theorem ok158 (n:Nat):FO 158 P158 R158 (F.zbm n):=zf WOf.st (zuc _ n) (d:=8) fun _=>by kernel_rfl
noncomputable def o158 (n:Nat):=oc 158 P158 R158 (F.zbm n)
def qh58:Shape:=⟨[(0,V3),(1,(.const (.fn 158 [] []))),(7,V0),(8,V0)],[[.str,V0,V3,V0,V4,V0]],[],[],[],1,0,0⟩
def qe58_0:Shape:=⟨[],[[.str,V0,V3,V0,V4,V0]],[],[],[],1,0,0⟩
def qe58_r:Shape:=⟨[(4,V0)],[[.str,V0,V3,V0,V4,V0]],[],[],[],1,0,0⟩
noncomputable def ql58 (X:Type) (n:Nat):LoopI X:=mkLi 6 1 0 0 qh58 [(0,qe58_0)] [qe58_r] n fun m ks=>F.zm.L2_slices_IndexFunc_api_Dec_api_Dec n (xe qe58_0 ks 0) (xr qe58_r ks) m
noncomputable def cx99 (X:Type) (n:Nat):Cx X:=mkCx tab.get [(99,Tryz.f99),(157,Tryz.f157),(196,Tryz.f196)] [o156 n,o158 n] [(196,2,[ql58 X n])] [] [] []
theorem qo58 (X:Type) (n:Nat):LO (cx99 X n) 196 Tryz.f196 0 (ql58 X n):=lok
theorem zxu (X:Type) (n:Nat):CxOK Tryz.prog SW (cx99 X n):=mx (J (J Tryz.func99 (by decide)) (J (J Tryz.func157 (by decide)) (T1 (J Tryz.func196 (by decide))))) (J (zb (ok156 n)) (T1 (zb (ok158 n)))) (J (okc trivial trivial) (J (okc trivial trivial) (T1 (okc (T1 (T1 (qo58 X n))) trivial)))) trivial
abbrev P99:List SV:=[V5]
abbrev R99:RV:=.one .bool
theorem ok99 (n:Nat):FO 99 P99 R99 (F.zm n):=zf WOf.st (zxu _ n) (d:=8) fun _=>by kernel_rfl
noncomputable def o99 (n:Nat):=oc 99 P99 R99 (F.zm n)
noncomputable def cx100 (X:Type) (n:Nat):Cx X:=mkCx tab.get [(100,Tryz.f100)] [o156 n] [] [] [] []
theorem zud (X:Type) (n:Nat):CxOK Tryz.prog SW (cx100 X n):=mx (T1 (J Tryz.func100 (by decide))) (T1 (zb (ok156 n))) (T1 (okc trivial trivial)) trivial
abbrev P100:List SV:=[V5]
abbrev R100:RV:=.one .bool
theorem ok100 (n:Nat):FO 100 P100 R100 (F.zbg n):=zf WOf.st (zud _ n) (d:=8) fun _=>by kernel_rfl
noncomputable def o100 (n:Nat):=oc 100 P100 R100 (F.zbg n)
noncomputable def cx161 (X:Type) (n:Nat):Cx X:=mkCx tab.get [(161,Tryz.f161)] [o162 n] [] [] [] []
theorem zue (X:Type) (n:Nat):CxOK Tryz.prog SW (cx161 X n):=mx (T1 (J Tryz.func161 (by decide))) (T1 (zb (ok162 n))) (T1 (okc trivial trivial)) trivial
abbrev P161:List SV:=[V11]
abbrev R161:RV:=.one .bool
theorem ok161 (n:Nat):FO 161 P161 R161 (F.zbr n):=zf WOf.st (zue _ n) (d:=8) fun _=>by kernel_rfl
noncomputable def o161 (n:Nat):=oc 161 P161 R161 (F.zbr n)
def qh59:Shape:=⟨[(0,V4),(1,(.const (.fn 161 [] []))),(7,V0),(8,V0)],[[.str,V0,V3,V0,V4,V0]],[],[],[],1,0,0⟩
def qe59_0:Shape:=⟨[],[[.str,V0,V3,V0,V4,V0]],[],[],[],1,0,0⟩
def qe59_r:Shape:=⟨[(4,V0)],[[.str,V0,V3,V0,V4,V0]],[],[],[],1,0,0⟩
noncomputable def ql59 (X:Type) (n:Nat):LoopI X:=mkLi 6 1 0 0 qh59 [(0,qe59_0)] [qe59_r] n fun m ks=>F.zq.L2_slices_IndexFunc_api_Tag_api_Tag n (xe qe59_0 ks 0) (xr qe59_r ks) m
noncomputable def cx101 (X:Type) (n:Nat):Cx X:=mkCx tab.get [(101,Tryz.f101),(160,Tryz.f160),(197,Tryz.f197)] [o161 n] [(197,2,[ql59 X n])] [] [] []
theorem qo59 (X:Type) (n:Nat):LO (cx101 X n) 197 Tryz.f197 0 (ql59 X n):=lok
theorem zuf (X:Type) (n:Nat):CxOK Tryz.prog SW (cx101 X n):=mx (J (J Tryz.func101 (by decide)) (J (J Tryz.func160 (by decide)) (T1 (J Tryz.func197 (by decide))))) (T1 (zb (ok161 n))) (J (okc trivial trivial) (J (okc trivial trivial) (T1 (okc (T1 (T1 (qo59 X n))) trivial)))) trivial
abbrev P101:List SV:=[V5]
abbrev R101:RV:=.one .bool
theorem ok101 (n:Nat):FO 101 P101 R101 (F.zq n):=zf WOf.st (zuf _ n) (d:=8) fun _=>by kernel_rfl
noncomputable def o101 (n:Nat):=oc 101 P101 R101 (F.zq n)
noncomputable def cx102 (X:Type) (n:Nat):Cx X:=mkCx tab.get [(102,Tryz.f102)] [o156 n] [] [] [] []
theorem zug (X:Type) (n:Nat):CxOK Tryz.prog SW (cx102 X n):=mx (T1 (J Tryz.func102 (by decide))) (T1 (zb (ok156 n))) (T1 (okc trivial trivial)) trivial
abbrev P102:List SV:=[V5]
abbrev R102:RV:=.one .bool
theorem ok102 (n:Nat):FO 102 P102 R102 (F.zbh n):=zf WOf.st (zug _ n) (d:=8) fun _=>by kernel_rfl
noncomputable def o102 (n:Nat):=oc 102 P102 R102 (F.zbh n)
def qh60:Shape:=⟨[(26,V16),(27,V0)],[[.str,V0,V3,V0,V4,V0],[.str,V0,V3,V0,V4,V0]],[],[],[],2,0,0⟩
def qe60_0:Shape:=⟨[],[[.str,V0,V3,V0,V4,V0],[.str,V0,V3,V0,V4,V0]],[],[],[],2,0,0⟩
def qe60_r:Shape:=⟨[(2,V0)],[[.str,V0,V3,V0,V4,V0],[.str,V0,V3,V0,V4,V0]],[],[],[],2,0,0⟩
noncomputable def ql60 (X:Type) (n:Nat):LoopI X:=mkLi 8 0 0 0 qh60 [(0,qe60_0)] [qe60_r] n fun m ks=>F.zv.L3 n (xe qe60_0 ks 0) (xr qe60_r ks) m
noncomputable def cx53 (X:Type) (n:Nat):Cx X:=mkCx tab.get [(53,Tryz.f53)] [o97 n,o98 n,o99 n,o100 n,o101 n,o102 n] [(53,3,[ql60 X n])] [] [] []
theorem qo60 (X:Type) (n:Nat):LO (cx53 X n) 53 Tryz.f53 0 (ql60 X n):=lok
theorem zxv (X:Type) (n:Nat):CxOK Tryz.prog SW (cx53 X n):=mx (T1 (J Tryz.func53 (by decide))) (J (zb (ok97 n)) (J (zb (ok98 n)) (J (zb (ok99 n)) (J (zb (ok100 n)) (J (zb (ok101 n)) (T1 (zb (ok102 n)))))))) (T1 (okc (T1 (T1 (qo60 X n))) trivial)) trivial
abbrev P53:List SV:=[V5]
abbrev R53:RV:=.one V0
theorem ok53 (n:Nat):FO 53 P53 R53 (F.zv n):=zf WOf.st (zxv _ n) (d:=8) fun _=>by kernel_rfl
noncomputable def o53 (n:Nat):=oc 53 P53 R53 (F.zv n)
def qh61:Shape:=⟨[(1,(.const (.ref 0 0))),(2,(.const (.ref 1 0))),(4,(.ms 3 Y2)),(13,(.ms 3 Y2)),(14,V0),(15,V0)],[[.str,V0,V3,V0,V4,V0],[.str,V0,(.sl Y2 (.own 0)),V0,(.sl Y3 (.own 1)),V0],[(.row Y2)],[(.row Y2)]],[true,true],[],[],4,0,0⟩
def qe61_0:Shape:=⟨[(1,(.const (.ref 0 0))),(2,(.const (.ref 1 0))),(4,(.ms 3 Y2))],[[.str,V0,V3,V0,V4,V0],[.str,V0,(.sl Y2 (.own 0)),V0,(.sl Y3 (.own 1)),V0],[(.row Y2)],[(.row Y2)]],[true,true],[],[],4,0,0⟩
noncomputable def ql61 (X:Type) (n:Nat):LoopI X:=mkLi 8 0 0 0 qh61 [(0,qe61_0)] [] n fun m ks=>F.zn.L3 n (xe qe61_0 ks 0) m
noncomputable def cx35 (X:Type) (n:Nat):Cx X:=mkCx tab.get [(35,Tryz.f35),(66,Tryz.f66)] [o53 n,o67 n,o68 n] [(35,3,[ql61 X n])] [] [] [] [] [(33,Y2)] [] none [66]
theorem qo61 (X:Type) (n:Nat):LO (cx35 X n) 35 Tryz.f35 0 (ql61 X n):=lok
theorem zxw (X:Type) (n:Nat):CxOK Tryz.prog SW (cx35 X n):=mx (J (J Tryz.func35 (by decide)) (T1 (J Tryz.func66 (by decide)))) (J (zb (ok53 n)) (J (zb (ok67 n)) (T1 (zb (ok68 n))))) (J (okc (T1 (T1 (qo61 X n))) trivial) (T1 (okc trivial trivial))) trivial
abbrev P35:List SV:=[V5]
abbrev R35:RV:=.many [V5,V0]
theorem ok35 (n:Nat):FO 35 P35 R35 (F.zn n):=zf WOf.st (zxw _ n) (d:=8) fun _=>by kernel_rfl
noncomputable def o35 (n:Nat):=oc 35 P35 R35 (F.zn n)
noncomputable def cx163 (X:Type) (n:Nat):Cx X:=mkCx tab.get [(163,Tryz.f163)] [] [] [] [] []
theorem zuh (X:Type) (n:Nat):CxOK Tryz.prog SW (cx163 X n):=mx (T1 (J Tryz.func163 (by decide))) trivial (T1 (okc trivial trivial)) trivial
abbrev P163:List SV:=[V5]
abbrev R163:RV:=.one .bool
theorem ok163 (n:Nat):FO 163 P163 R163 (F.zbb n):=zf WOf.st (zuh _ n) (d:=8) fun _=>by kernel_rfl
noncomputable def o163 (n:Nat):=oc 163 P163 R163 (F.zbb n)
noncomputable def cx104 (X:Type) (n:Nat):Cx X:=mkCx tab.get [(104,Tryz.f104)] [o163 n] [] [] [] []
theorem zui (X:Type) (n:Nat):CxOK Tryz.prog SW (cx104 X n):=mx (T1 (J Tryz.func104 (by decide))) (T1 (zb (ok163 n))) (T1 (okc trivial trivial)) trivial
abbrev P104:List SV:=[V5]
abbrev R104:RV:=.one .bool
theorem ok104 (n:Nat):FO 104 P104 R104 (F.zbi n):=zf WOf.st (zui _ n) (d:=8) fun _=>by kernel_rfl
noncomputable def o104 (n:Nat):=oc 104 P104 R104 (F.zbi n)
noncomputable def cx105 (X:Type) (n:Nat):Cx X:=mkCx tab.get [(105,Tryz.f105)] [] [] [] [] []
theorem zuj (X:Type) (n:Nat):CxOK Tryz.prog SW (cx105 X n):=mx (T1 (J Tryz.func105 (by decide))) trivial (T1 (okc trivial trivial)) trivial
abbrev P105:List SV:=[V5]
abbrev R105:RV:=.one .bool
theorem ok105 (n:Nat):FO 105 P105 R105 (F.zch n):=zf WOf.st (zuj _ n) (d:=8) fun _=>by kernel_rfl
noncomputable def o105 (n:Nat):=oc 105 P105 R105 (F.zch n)
noncomputable def cx106 (X:Type) (n:Nat):Cx X:=mkCx tab.get [(106,Tryz.f106)] [o163 n] [] [] [] []
theorem zuk (X:Type) (n:Nat):CxOK Tryz.prog SW (cx106 X n):=mx (T1 (J Tryz.func106 (by decide))) (T1 (zb (ok163 n))) (T1 (okc trivial trivial)) trivial
abbrev P106:List SV:=[V5]
abbrev R106:RV:=.one .bool
theorem ok106 (n:Nat):FO 106 P106 R106 (F.zbc n):=zf WOf.st (zuk _ n) (d:=8) fun _=>by kernel_rfl
noncomputable def o106 (n:Nat):=oc 106 P106 R106 (F.zbc n)
noncomputable def cx36 (X:Type) (n:Nat):Cx X:=mkCx tab.get [(36,Tryz.f36)] [o53 n,o104 n,o105 n,o106 n] [] [] [] [] [] [] [(55,.fmts [(1,104),(2,105),(3,106),(4,105)])] none []
theorem zxx (X:Type) (n:Nat):CxOK Tryz.prog SW (cx36 X n):=mx (T1 (J Tryz.func36 (by decide))) (J (zb (ok53 n)) (J (zb (ok104 n)) (J (zb (ok105 n)) (T1 (zb (ok106 n)))))) (T1 (okc trivial trivial)) trivial (T1 (zwu.mono (fun _ _=>trivial)))
abbrev P36:List SV:=[V5,V0]
abbrev R36:RV:=.one V0
theorem ok36 (n:Nat):FO 36 P36 R36 (F.za2 n):=zf WOf.st (zxx _ n) (d:=8) fun _=>by kernel_rfl
noncomputable def o36 (n:Nat):=oc 36 P36 R36 (F.za2 n)
abbrev P166:List SV:=[V6,V0]
abbrev R166:RV:=.one .str
theorem ok166 (n:Nat):FO 166 P166 R166 (O.futoa n):=zs1 (enters Tryz.func166 (by kernel_rfl) (by decide)) (fun k hk w hw=>(Tryz.strconv_FormatUint_10 k hk w (swTab hw)).mono fun e w' ⟨a,q,os,b⟩=>⟨a,b▸zhp q os⟩) n
noncomputable def o166 (n:Nat):=oc 166 P166 R166 (O.futoa n)
abbrev P167:List SV:=[.str,V0]
abbrev R167:RV:=.one .str
theorem ok167 (n:Nat):FO 167 P167 R167 (O.repeat' n):=zq1 (enters Tryz.func167 (by kernel_rfl) (by decide)) Tryz.strings_Repeat n
noncomputable def o167 (n:Nat):=oc 167 P167 R167 (O.repeat' n)
noncomputable def cx110 (X:Type) (n:Nat):Cx X:=mkCx tab.get [(110,Tryz.f110)] [o159 n,o166 n,o167 n] [] [] [] []
theorem zul (X:Type) (n:Nat):CxOK Tryz.prog SW (cx110 X n):=mx (T1 (J Tryz.func110 (by decide))) (J (zb (ok159 n)) (J (zb (ok166 n)) (T1 (zb (ok167 n))))) (T1 (okc trivial trivial)) trivial
abbrev P110:List SV:=[V7]
abbrev R110:RV:=.many [.str,V0]
theorem ok110 (n:Nat):FO 110 P110 R110 (F.zby n):=zf WOf.st (zul _ n) (d:=8) fun _=>by kernel_rfl
noncomputable def o110 (n:Nat):=oc 110 P110 R110 (F.zby n)
abbrev P168:List SV:=[V0]
abbrev R168:RV:=.one .str
theorem ok168 (n:Nat):FO 168 P168 R168 (O.itoa n):=zwo (enters Tryz.func168 (by kernel_rfl) (by decide)) (fun k h0 h1 w hw=>(Tryz.strconv_Itoa k h0 h1 w (swTab hw)).mono fun e w' ⟨a,q,os,b⟩=>⟨a,b▸zhp q os⟩) n
noncomputable def o168 (n:Nat):=oc 168 P168 R168 (O.itoa n)
noncomputable def cx111 (X:Type) (n:Nat):Cx X:=mkCx tab.get [(111,Tryz.f111)] [o168 n,o169 n] [] [] [] []
theorem zum (X:Type) (n:Nat):CxOK Tryz.prog SW (cx111 X n):=mx (T1 (J Tryz.func111 (by decide))) (J (zb (ok168 n)) (T1 (zb (ok169 n)))) (T1 (okc trivial trivial)) trivial
abbrev P111:List SV:=[V0]
abbrev R111:RV:=.many [.str,V0]
theorem ok111 (n:Nat):FO 111 P111 R111 (F.zbt n):=zf WOf.st (zum _ n) (d:=8) fun _=>by kernel_rfl
noncomputable def o111 (n:Nat):=oc 111 P111 R111 (F.zbt n)
noncomputable def cx57 (X:Type) (n:Nat):Cx X:=mkCx tab.get [(57,Tryz.f57)] [o36 n,o109 n,o110 n,o111 n] [] [] [] []
theorem zxy (X:Type) (n:Nat):CxOK Tryz.prog SW (cx57 X n):=mx (T1 (J Tryz.func57 (by decide))) (J (zb (ok36 n)) (J (zb (ok109 n)) (J (zb (ok110 n)) (T1 (zb (ok111 n)))))) (T1 (okc trivial trivial)) trivial
abbrev P57:List SV:=[V5]
abbrev R57:RV:=.many [.str,V0]
theorem ok57 (n:Nat):FO 57 P57 R57 (F.zb0 n):=zf WOf.st (zxy _ n) (d:=8) fun _=>by kernel_rfl
noncomputable def o57 (n:Nat):=oc 57 P57 R57 (F.zb0 n)
noncomputable def cx122 (X:Type) (n:Nat):Cx X:=mkCx tab.get [(122,Tryz.f122)] [o179 n] [] [] [] []
theorem zun (X:Type) (n:Nat):CxOK Tryz.prog SW (cx122 X n):=mx (T1 (J Tryz.func122 (by decide))) (T1 (zb (ok179 n))) (T1 (okc trivial trivial)) trivial
abbrev P122:List SV:=[V0]
abbrev R122:RV:=.many [.str,V0]
theorem ok122 (n:Nat):FO 122 P122 R122 (F.zco n):=zf WOf.st (zun _ n) (d:=8) fun _=>by kernel_rfl
noncomputable def o122 (n:Nat):=oc 122 P122 R122 (F.zco n)
abbrev P180:List SV:=[V9,.str]
abbrev R180:RV:=.one .str
theorem ok180 (n:Nat):FO 180 P180 R180 (O.join n):=zwn (enters Tryz.func180 (by kernel_rfl) (by decide)) Tryz.strings_Join_none Tryz.strings_Join n
noncomputable def o180 (n:Nat):=oc 180 P180 R180 (O.join n)
def qh62:Shape:=⟨[(5,(.sl .str (.own 0))),(10,V4),(11,V0),(12,V0)],[],[true],[],[],0,0,0⟩
def qe62_0:Shape:=⟨[(5,(.sl .str (.own 0)))],[],[true],[],[],0,0,0⟩
def qe62_r:Shape:=⟨[(2,.str),(3,V0),(4,V0)],[],[],[],[],0,0,0⟩
noncomputable def ql62 (X:Type) (n:Nat):LoopI X:=mkLi 8 0 0 0 qh62 [(0,qe62_0)] [qe62_r] n fun m ks=>F.za3.L3 n (xe qe62_0 ks 0) (xr qe62_r ks) m
noncomputable def cx123 (X:Type) (n:Nat):Cx X:=mkCx tab.get [(123,Tryz.f123)] [o162 n,o180 n] [(123,3,[ql62 X n])] [] [] []
theorem qo62 (X:Type) (n:Nat):LO (cx123 X n) 123 Tryz.f123 0 (ql62 X n):=lok
theorem zuo (X:Type) (n:Nat):CxOK Tryz.prog SW (cx123 X n):=mx (T1 (J Tryz.func123 (by decide))) (J (zb (ok162 n)) (T1 (zb (ok180 n)))) (T1 (okc (T1 (T1 (qo62 X n))) trivial)) trivial
abbrev P123:List SV:=[V4]
abbrev R123:RV:=.many [.str,V0,V0]
theorem ok123 (n:Nat):FO 123 P123 R123 (F.za3 n):=zf WOf.st (zuo _ n) (d:=8) fun _=>by kernel_rfl
noncomputable def o123 (n:Nat):=oc 123 P123 R123 (F.za3 n)
noncomputable def cx124 (X:Type) (n:Nat):Cx X:=mkCx tab.get [(124,Tryz.f124)] [o168 n] [] [] [] []
theorem zup (X:Type) (n:Nat):CxOK Tryz.prog SW (cx124 X n):=mx (T1 (J Tryz.func124 (by decide))) (T1 (zb (ok168 n))) (T1 (okc trivial trivial)) trivial
abbrev P124:List SV:=[V0]
abbrev R124:RV:=.many [.str,V0]
theorem ok124 (n:Nat):FO 124 P124 R124 (F.zci n):=zf WOf.st (zup _ n) (d:=8) fun _=>by kernel_rfl
noncomputable def o124 (n:Nat):=oc 124 P124 R124 (F.zci n)
def qh63:Shape:=⟨[(1,(.const (.ref 0 0))),(5,(.const (.ref 2 0))),(6,(.const (.ref 3 0))),(7,(.const (.fn 120 [] [(.ref 3 0),(.ref 2 0)]))),(34,V3),(35,V0),(36,V0)],[[.str,V0,V3,V0,V4,V0],[(.row (.u8t 5))],[(.const (.bcell 2 148)),(.ms 1 (.u8t 5))],[V0]],[],[],[],4,0,0⟩
def qe63_0:Shape:=⟨[(1,(.const (.ref 0 0))),(5,(.const (.ref 2 0))),(6,(.const (.ref 3 0))),(7,(.const (.fn 120 [] [(.ref 3 0),(.ref 2 0)])))],[[.str,V0,V3,V0,V4,V0],[(.row (.u8t 5))],[(.const (.bcell 2 148)),(.ms 1 (.u8t 5))],[V0]],[],[],[],4,0,0⟩
noncomputable def ql63 (X:Type) (n:Nat):LoopI X:=mkLi 8 0 0 0 qh63 [(0,qe63_0)] [] n fun m ks=>F.zi.L9 n (xe qe63_0 ks 0) m
def qh64:Shape:=⟨[(5,(.const (.ref 2 0))),(6,(.const (.ref 3 0)))],[[.str,V0,V3,V0,V4,V0],[(.row (.u8t 5))],[(.const (.bcell 2 148)),(.ms 1 (.u8t 5))],[V0]],[],[],[],4,0,0⟩
def qe64_r:Shape:=⟨[(2,.str),(3,V0)],[],[],[],[],0,0,0⟩
noncomputable def ql64 (X:Type) (n:Nat):CutI X:=mkCi 8 0 0 0 qh64 [] [] [qe64_r] fun ks=>F.zi.C25 n (xr qe64_r ks)
def qh65:Shape:=⟨[(1,(.const (.ref 0 0))),(5,(.const (.ref 2 0))),(6,(.const (.ref 3 0))),(7,(.const (.fn 120 [] [(.ref 3 0),(.ref 2 0)])))],[[.str,V0,V3,V0,V4,V0],[(.row (.u8t 5))],[(.const (.bcell 2 148)),(.ms 1 (.u8t 5))],[V0]],[],[],[],4,0,0⟩
def qe65_r:Shape:=⟨[(2,.str),(3,V0)],[],[],[],[],0,0,0⟩
noncomputable def ql65 (X:Type) (n:Nat):CutI X:=mkCi 8 0 0 0 qh65 [] [] [qe65_r] fun ks=>F.zi.C22 n (xr qe65_r ks)
def qh66:Shape:=⟨[(1,(.const (.ref 0 0))),(5,(.const (.ref 2 0))),(6,(.const (.ref 3 0))),(7,(.const (.fn 120 [] [(.ref 3 0),(.ref 2 0)])))],[[.str,V0,V3,V0,V4,V0],[(.row (.u8t 5))],[(.const (.bcell 2 148)),(.ms 1 (.u8t 5))],[V0]],[],[],[],4,0,0⟩
def qe66_r:Shape:=⟨[(2,.str),(3,V0)],[],[],[],[],0,0,0⟩
noncomputable def ql66 (X:Type) (n:Nat):CutI X:=mkCi 8 0 0 0 qh66 [] [] [qe66_r] fun ks=>F.zi.C19 n (xr qe66_r ks)
def qh67:Shape:=⟨[(1,(.const (.ref 0 0))),(5,(.const (.ref 2 0))),(6,(.const (.ref 3 0))),(7,(.const (.fn 120 [] [(.ref 3 0),(.ref 2 0)])))],[[.str,V0,V3,V0,V4,V0],[(.row (.u8t 5))],[(.const (.bcell 2 148)),(.ms 1 (.u8t 5))],[V0]],[],[],[],4,0,0⟩
def qe67_r:Shape:=⟨[(2,.str),(3,V0)],[],[],[],[],0,0,0⟩
noncomputable def ql67 (X:Type) (n:Nat):CutI X:=mkCi 8 0 0 0 qh67 [] [] [qe67_r] fun ks=>F.zi.C16 n (xr qe67_r ks)
noncomputable def cx59 (X:Type) (n:Nat):Cx X:=mkCx tab.get [(59,Tryz.f59),(120,Tryz.f120),(121,Tryz.f121)] [o35 n,o110 n,o111 n,o122 n,o123 n,o124 n] [(59,9,[ql63 X n])] [] [] [] [(59,16,[ql67 X n]),(59,19,[ql66 X n]),(59,22,[ql65 X n]),(59,25,[ql64 X n])] [] [(125,.bstring 148 5),(178,.bcheck 148)] (some (148,5)) []
theorem qo64 (X:Type) (n:Nat):CO (cx59 X n) 59 Tryz.f59 24 (ql64 X n):=fun _ _=>by kernel_rfl
theorem qo65 (X:Type) (n:Nat):CO (cx59 X n) 59 Tryz.f59 21 (ql65 X n):=fun _ _=>by kernel_rfl
theorem qo66 (X:Type) (n:Nat):CO (cx59 X n) 59 Tryz.f59 18 (ql66 X n):=fun _ _=>by kernel_rfl
theorem qo67 (X:Type) (n:Nat):CO (cx59 X n) 59 Tryz.f59 17 (ql67 X n):=fun _ _=>by kernel_rfl
theorem qo63 (X:Type) (n:Nat):LO (cx59 X n) 59 Tryz.f59 0 (ql63 X n):=lok
theorem zxz (X:Type) (n:Nat):CxOK Tryz.prog SW (cx59 X n):=mx (J (J Tryz.func59 (by decide)) (J (J Tryz.func120 (by decide)) (T1 (J Tryz.func121 (by decide))))) (J (zb (ok35 n)) (J (zb (ok110 n)) (J (zb (ok111 n)) (J (zb (ok122 n)) (J (zb (ok123 n)) (T1 (zb (ok124 n)))))))) (J (okk (J trivial (J trivial (J trivial (J trivial (J trivial (J trivial (J trivial (J trivial (J trivial (J trivial (J trivial (J trivial (J trivial (J trivial (J trivial (J trivial (J trivial (J (T1 (qo67 X n)) (J (T1 (qo66 X n)) (J trivial (J trivial (J (T1 (qo65 X n)) (J trivial (J trivial (J (T1 (qo64 X n)) (J trivial (J trivial (J trivial (J trivial (J trivial (T1 trivial))))))))))))))))))))))))))))))) (T1 (T1 (qo63 X n))) trivial) (J (okc trivial trivial) (T1 (okc trivial trivial)))) trivial (J (zo2.mono (fun _ _=>trivial)) (T1 (zlf.mono (fun _ _=>trivial))))
abbrev P59:List SV:=[V5]
abbrev R59:RV:=.many [.str,V0]
theorem ok59 (n:Nat):FO 59 P59 R59 (F.zi n):=zf WOf.st (zxz _ n) (d:=8) fun _=>by kernel_rfl
noncomputable def o59 (n:Nat):=oc 59 P59 R59 (F.zi n)
noncomputable def cx61 (X:Type) (n:Nat):Cx X:=mkCx tab.get [(61,Tryz.f61)] [o36 n,o110 n,o124 n] [] [] [] []
theorem zx0 (X:Type) (n:Nat):CxOK Tryz.prog SW (cx61 X n):=mx (T1 (J Tryz.func61 (by decide))) (J (zb (ok36 n)) (J (zb (ok110 n)) (T1 (zb (ok124 n))))) (T1 (okc trivial trivial)) trivial
abbrev P61:List SV:=[V5]
abbrev R61:RV:=.many [.str,V0]
theorem ok61 (n:Nat):FO 61 P61 R61 (F.zbo n):=zf WOf.st (zx0 _ n) (d:=8) fun _=>by kernel_rfl
noncomputable def o61 (n:Nat):=oc 61 P61 R61 (F.zbo n)
noncomputable def cx14 (X:Type) (n:Nat):Cx X:=mkCx tab.get [(14,Tryz.f14),(32,Tryz.f32)] [o35 n,o36 n,o57 n,o59 n,o61 n] [] [] [] []
theorem zx1 (X:Type) (n:Nat):CxOK Tryz.prog SW (cx14 X n):=mx (J (J Tryz.func14 (by decide)) (T1 (J Tryz.func32 (by decide)))) (J (zb (ok35 n)) (J (zb (ok36 n)) (J (zb (ok57 n)) (J (zb (ok59 n)) (T1 (zb (ok61 n))))))) (J (okc trivial trivial) (T1 (okc trivial trivial))) trivial
abbrev P14:List SV:=[V5,V0]
abbrev R14:RV:=.many [.str,V0]
theorem ok14 (n:Nat):FO 14 P14 R14 (F.zck n):=zf WOf.st (zx1 _ n) (d:=8) fun _=>by kernel_rfl
noncomputable def o14 (n:Nat):=oc 14 P14 R14 (F.zck n)
abbrev P82:List SV:=[V6]
abbrev R82:RV:=.one .str
noncomputable def cx82 (X:Type) (n m:Nat):Cx X:=mkCx tab.get [(82,Tryz.f82)] [(82,orcOf P82 R82 (appL P82 (F.zal.go n m)))] [] [] [] []
theorem zx2 (X:Type) (n m:Nat) (ih:FO 82 P82 R82 (F.zal.go n m)):CxOK Tryz.prog SW (cx82 X n m):=mx (T1 (J Tryz.func82 (by decide))) (T1 (zb (ih))) (T1 (okc trivial trivial)) trivial
theorem zn4 (n:Nat):∀ m:Nat,FO 82 P82 R82 (F.zal.go n m)
 | 0=>fun x y hy=>by cases hy
 | m+1=>zf WOf.st (zx2 _ n m (zn4 n m)) (d:=8) fun _=>by kernel_rfl
theorem ok82 (n:Nat):FO 82 P82 R82 (F.zal n):=zn4 n n
noncomputable def o82 (n:Nat):=oc 82 P82 R82 (F.zal n)
noncomputable def cx40 (X:Type) (n:Nat):Cx X:=mkCx tab.get [(40,Tryz.f40)] [o81 n,o82 n] [] [] [(40,1,[(1,11),(3,11),(6,11)])] []
theorem zx3 (X:Type) (n:Nat):CxOK Tryz.prog SW (cx40 X n):=mx (T1 (J Tryz.func40 (by decide))) (J (zb (ok81 n)) (T1 (zb (ok82 n)))) (T1 (okc trivial trivial)) trivial
abbrev P40:List SV:=[V7]
abbrev R40:RV:=.many [V7,V0]
theorem ok40 (n:Nat):FO 40 P40 R40 (F.zb4 n):=zf WOf.st (zx3 _ n) (d:=8) fun _=>by kernel_rfl
noncomputable def o40 (n:Nat):=oc 40 P40 R40 (F.zb4 n)
noncomputable def cx84 (X:Type) (n:Nat):Cx X:=mkCx tab.get [(84,Tryz.f84)] [o149 n] [] [] [] []
theorem zx4 (X:Type) (n:Nat):CxOK Tryz.prog SW (cx84 X n):=mx (T1 (J Tryz.func84 (by decide))) (T1 (zb (ok149 n))) (T1 (okc trivial trivial)) trivial
abbrev P84:List SV:=[V11]
abbrev R84:RV:=.one V0
theorem ok84 (n:Nat):FO 84 P84 R84 (F.zcg n):=zf WOf.st (zx4 _ n) (d:=8) fun _=>by kernel_rfl
noncomputable def o84 (n:Nat):=oc 84 P84 R84 (F.zcg n)
def qh68:Shape:=⟨[(2,(.const (.ref 0 0))),(5,V0)],[[.str,V0,V3,V0,V4,V0]],[],[],[],1,0,0⟩
def qe68_0:Shape:=⟨[(2,(.const (.ref 0 0)))],[[.str,V0,V3,V0,V4,V0]],[],[],[],1,0,0⟩
def qe68_r:Shape:=⟨[(4,V0)],[[.str,V0,V3,V0,V4,V0]],[],[],[],1,0,0⟩
noncomputable def ql68 (X:Type) (n:Nat):LoopI X:=mkLi 8 0 0 0 qh68 [(0,qe68_0)] [qe68_r] n fun m ks=>F.z6.L12 n (xe qe68_0 ks 0) (xr qe68_r ks) m
noncomputable def cx41 (X:Type) (n:Nat):Cx X:=mkCx tab.get [(41,Tryz.f41)] [o83 n,o84 n] [(41,12,[ql68 X n])] [] [] []
theorem qo68 (X:Type) (n:Nat):LO (cx41 X n) 41 Tryz.f41 0 (ql68 X n):=lok
theorem zx5 (X:Type) (n:Nat):CxOK Tryz.prog SW (cx41 X n):=mx (T1 (J Tryz.func41 (by decide))) (J (zb (ok83 n)) (T1 (zb (ok84 n)))) (T1 (okc (T1 (T1 (qo68 X n))) trivial)) trivial
abbrev P41:List SV:=[V5,.bool]
abbrev R41:RV:=.one V0
theorem ok41 (n:Nat):FO 41 P41 R41 (F.z6 n):=zf WOf.st (zx5 _ n) (d:=8) fun _=>by kernel_rfl
noncomputable def o41 (n:Nat):=oc 41 P41 R41 (F.z6 n)
def qh69:Shape:=⟨[(1,(.const (.ref 0 0))),(2,(.const (.ref 1 0))),(4,.bool),(5,(.sl Y2 (.own 0))),(6,V0)],[[.str,V0,V3,V0,V4,V0],[.str,V0,(.sl Y2 (.own 1)),V0,(.sl Y3 (.own 2)),V0]],[true,true,true],[],[],2,0,0⟩
def qe69_0:Shape:=⟨[(1,(.const (.ref 0 0))),(2,(.const (.ref 1 0))),(4,.bool),(5,(.sl Y2 (.own 0)))],[[.str,V0,V3,V0,V4,V0],[.str,V0,(.sl Y2 (.own 1)),V0,(.sl Y3 (.own 2)),V0]],[true,true,true],[],[],2,0,0⟩
noncomputable def ql69 (X:Type) (n:Nat):LoopI X:=mkLi 8 0 0 0 qh69 [(0,qe69_0)] [] n fun m ks=>F.zad.L4 n (xe qe69_0 ks 0) m
noncomputable def cx19 (X:Type) (n:Nat):Cx X:=mkCx tab.get [(19,Tryz.f19)] [o40 n,o41 n,o42 n] [(19,4,[ql69 X n])] [] [] []
theorem qo69 (X:Type) (n:Nat):LO (cx19 X n) 19 Tryz.f19 0 (ql69 X n):=lok
theorem zx6 (X:Type) (n:Nat):CxOK Tryz.prog SW (cx19 X n):=mx (T1 (J Tryz.func19 (by decide))) (J (zb (ok40 n)) (J (zb (ok41 n)) (T1 (zb (ok42 n))))) (T1 (okc (T1 (T1 (qo69 X n))) trivial)) trivial
abbrev P19:List SV:=[V5]
abbrev R19:RV:=.many [V5,V0]
theorem ok19 (n:Nat):FO 19 P19 R19 (F.zad n):=zf WOf.st (zx6 _ n) (d:=8) fun _=>by kernel_rfl
noncomputable def o19 (n:Nat):=oc 19 P19 R19 (F.zad n)
noncomputable def cx86 (X:Type) (n:Nat):Cx X:=mkCx tab.get [(86,Tryz.f86)] [o81 n,o82 n] [] [] [(86,3,[(1,11),(3,11),(6,11)])] []
theorem zx7 (X:Type) (n:Nat):CxOK Tryz.prog SW (cx86 X n):=mx (T1 (J Tryz.func86 (by decide))) (J (zb (ok81 n)) (T1 (zb (ok82 n)))) (T1 (okc trivial trivial)) trivial
abbrev P86:List SV:=[V7]
abbrev R86:RV:=.one V0
theorem ok86 (n:Nat):FO 86 P86 R86 (F.zb1 n):=zf WOf.st (zx7 _ n) (d:=8) fun _=>by kernel_rfl
noncomputable def o86 (n:Nat):=oc 86 P86 R86 (F.zb1 n)
def qh70:Shape:=⟨[(1,(.const (.ref 0 0))),(3,.bool),(4,V0)],[[.str,V0,V3,V0,V4,V0]],[],[],[],1,0,0⟩
def qe70_0:Shape:=⟨[(1,(.const (.ref 0 0))),(3,.bool)],[[.str,V0,V3,V0,V4,V0]],[],[],[],1,0,0⟩
noncomputable def ql70 (X:Type) (n:Nat):LoopI X:=mkLi 8 0 0 0 qh70 [(0,qe70_0)] [] n fun m ks=>F.zab.L3 n (xe qe70_0 ks 0) m
noncomputable def cx43 (X:Type) (n:Nat):Cx X:=mkCx tab.get [(43,Tryz.f43)] [o41 n,o86 n] [(43,3,[ql70 X n])] [] [] []
theorem qo70 (X:Type) (n:Nat):LO (cx43 X n) 43 Tryz.f43 0 (ql70 X n):=lok
theorem zx8 (X:Type) (n:Nat):CxOK Tryz.prog SW (cx43 X n):=mx (T1 (J Tryz.func43 (by decide))) (J (zb (ok41 n)) (T1 (zb (ok86 n)))) (T1 (okc (T1 (T1 (qo70 X n))) trivial)) trivial
abbrev P43:List SV:=[V5]
abbrev R43:RV:=.one V0
theorem ok43 (n:Nat):FO 43 P43 R43 (F.zab n):=zf WOf.st (zx8 _ n) (d:=8) fun _=>by kernel_rfl
noncomputable def o43 (n:Nat):=oc 43 P43 R43 (F.zab n)
noncomputable def cx44 (X:Type) (n:Nat):Cx X:=mkCx tab.get [(44,Tryz.f44)] [] [] [] [] []
theorem zx9 (X:Type) (n:Nat):CxOK Tryz.prog SW (cx44 X n):=mx (T1 (J Tryz.func44 (by decide))) trivial (T1 (okc trivial trivial)) trivial
abbrev P44:List SV:=[V5,V0]
abbrev R44:RV:=.one .bool
theorem ok44 (n:Nat):FO 44 P44 R44 (F.zb7 n):=zf WOf.st (zx9 _ n) (d:=8) fun _=>by kernel_rfl
noncomputable def o44 (n:Nat):=oc 44 P44 R44 (F.zb7 n)
noncomputable def cx20 (X:Type) (n:Nat):Cx X:=mkCx tab.get [(20,Tryz.f20)] [o43 n,o44 n] [] [] [] []
theorem zya (X:Type) (n:Nat):CxOK Tryz.prog SW (cx20 X n):=mx (T1 (J Tryz.func20 (by decide))) (J (zb (ok43 n)) (T1 (zb (ok44 n)))) (T1 (okc trivial trivial)) trivial
abbrev P20:List SV:=[V5,V0]
abbrev R20:RV:=.one V0
theorem ok20 (n:Nat):FO 20 P20 R20 (F.zbu n):=zf WOf.st (zya _ n) (d:=8) fun _=>by kernel_rfl
noncomputable def o20 (n:Nat):=oc 20 P20 R20 (F.zbu n)
def qh71:Shape:=⟨[(1,(.const (.ref 0 0))),(3,.str),(4,V0)],[[.bool,V6,V0]],[],[],[],1,0,0⟩
def qe71_0:Shape:=⟨[(1,(.const (.ref 0 0))),(3,.str)],[[.bool,V6,V0]],[],[],[],1,0,0⟩
noncomputable def ql71 (X:Type) (n:Nat):LoopI X:=mkLi 8 0 0 0 qh71 [(0,qe71_0)] [] n fun m ks=>F.zl.L3 n (xe qe71_0 ks 0) m
def qh72:Shape:=⟨[(1,(.const (.ref 0 0))),(3,.str)],[[.bool,V6,V0]],[],[],[],1,0,0⟩
def qe72_2:Shape:=⟨[(1,(.const (.ref 0 0))),(3,.str)],[[.bool,V6,V0]],[],[],[],1,0,0⟩
noncomputable def ql72 (X:Type) (n:Nat):LoopI X:=mkLi 8 0 0 0 qh72 [(2,qe72_2)] [] n fun m ks=>F.zl.L7 n (xe qe72_2 ks 2) m
noncomputable def cx87 (X:Type) (n:Nat):Cx X:=mkCx tab.get [(87,Tryz.f87)] [o82 n] [(87,3,[ql71 X n]),(87,7,[ql72 X n])] [] [] []
theorem qo71 (X:Type) (n:Nat):LO (cx87 X n) 87 Tryz.f87 0 (ql71 X n):=lok
theorem qo72 (X:Type) (n:Nat):LO (cx87 X n) 87 Tryz.f87 1 (ql72 X n):=lok
theorem zyb (X:Type) (n:Nat):CxOK Tryz.prog SW (cx87 X n):=mx (T1 (J Tryz.func87 (by decide))) (T1 (zb (ok82 n))) (T1 (okc (J (T1 (qo71 X n)) (T1 (T1 (qo72 X n)))) trivial)) trivial
abbrev P87:List SV:=[V7]
abbrev R87:RV:=.one .str
theorem ok87 (n:Nat):FO 87 P87 R87 (F.zl n):=zf WOf.st (zyb _ n) (d:=8) fun _=>by kernel_rfl
noncomputable def o87 (n:Nat):=oc 87 P87 R87 (F.zl n)
abbrev P151:List SV:=[V6]
abbrev R151:RV:=.one .str
noncomputable def cx151 (X:Type) (n m:Nat):Cx X:=mkCx tab.get [(151,Tryz.f151)] [(151,orcOf P151 R151 (appL P151 (F.zam.go n m)))] [] [] [] []
theorem zuq (X:Type) (n m:Nat) (ih:FO 151 P151 R151 (F.zam.go n m)):CxOK Tryz.prog SW (cx151 X n m):=mx (T1 (J Tryz.func151 (by decide))) (T1 (zb (ih))) (T1 (okc trivial trivial)) trivial
theorem zlg (n:Nat):∀ m:Nat,FO 151 P151 R151 (F.zam.go n m)
 | 0=>fun x y hy=>by cases hy
 | m+1=>zf WOf.st (zuq _ n m (zlg n m)) (d:=8) fun _=>by kernel_rfl
theorem ok151 (n:Nat):FO 151 P151 R151 (F.zam n):=zlg n n
noncomputable def o151 (n:Nat):=oc 151 P151 R151 (F.zam n)
def qh73:Shape:=⟨[(3,.str)],[],[],[],[],0,0,0⟩
def qe73_0:Shape:=⟨[(3,.str)],[],[],[],[],0,0,0⟩
noncomputable def ql73 (X:Type) (n:Nat):LoopI X:=mkLi 8 0 0 0 qh73 [(0,qe73_0)] [] n fun m ks=>F.zg.L4 n (xe qe73_0 ks 0) m
def qh74:Shape:=⟨[(3,.str)],[],[],[],[],0,0,0⟩
def qe74_2:Shape:=⟨[(3,.str)],[],[],[],[],0,0,0⟩
noncomputable def ql74 (X:Type) (n:Nat):LoopI X:=mkLi 8 0 0 0 qh74 [(2,qe74_2)] [] n fun m ks=>F.zg.L6 n (xe qe74_2 ks 2) m
noncomputable def cx89 (X:Type) (n:Nat):Cx X:=mkCx tab.get [(89,Tryz.f89)] [o151 n] [(89,4,[ql73 X n]),(89,6,[ql74 X n])] [] [] []
theorem qo73 (X:Type) (n:Nat):LO (cx89 X n) 89 Tryz.f89 0 (ql73 X n):=lok
theorem qo74 (X:Type) (n:Nat):LO (cx89 X n) 89 Tryz.f89 1 (ql74 X n):=lok
theorem zyc (X:Type) (n:Nat):CxOK Tryz.prog SW (cx89 X n):=mx (T1 (J Tryz.func89 (by decide))) (T1 (zb (ok151 n))) (T1 (okc (J (T1 (qo73 X n)) (T1 (T1 (qo74 X n)))) trivial)) trivial
abbrev P89:List SV:=[V0]
abbrev R89:RV:=.one .str
theorem ok89 (n:Nat):FO 89 P89 R89 (F.zg n):=zf WOf.st (zyc _ n) (d:=8) fun _=>by kernel_rfl
noncomputable def o89 (n:Nat):=oc 89 P89 R89 (F.zg n)
noncomputable def cx45 (X:Type) (n:Nat):Cx X:=mkCx tab.get [(45,Tryz.f45)] [o87 n,o88 n,o89 n] [] [] [] []
theorem zyd (X:Type) (n:Nat):CxOK Tryz.prog SW (cx45 X n):=mx (T1 (J Tryz.func45 (by decide))) (J (zb (ok87 n)) (J (zb (ok88 n)) (T1 (zb (ok89 n))))) (T1 (okc trivial trivial)) trivial
abbrev P45:List SV:=[V5]
abbrev R45:RV:=.one .str
theorem ok45 (n:Nat):FO 45 P45 R45 (F.zb8 n):=zf WOf.st (zyd _ n) (d:=8) fun _=>by kernel_rfl
noncomputable def o45 (n:Nat):=oc 45 P45 R45 (F.zb8 n)
def qh75:Shape:=⟨[(0,V4),(3,.str),(4,V0)],[],[],[],[],0,0,0⟩
def qe75_0:Shape:=⟨[(3,.str)],[],[],[],[],0,0,0⟩
noncomputable def ql75 (X:Type) (n:Nat):LoopI X:=mkLi 8 0 0 0 qh75 [(0,qe75_0)] [] n fun m ks=>F.zac.L3 n (xe qe75_0 ks 0) m
noncomputable def cx91 (X:Type) (n:Nat):Cx X:=mkCx tab.get [(91,Tryz.f91)] [o152 n] [(91,3,[ql75 X n])] [] [] []
theorem qo75 (X:Type) (n:Nat):LO (cx91 X n) 91 Tryz.f91 0 (ql75 X n):=lok
theorem zye (X:Type) (n:Nat):CxOK Tryz.prog SW (cx91 X n):=mx (T1 (J Tryz.func91 (by decide))) (T1 (zb (ok152 n))) (T1 (okc (T1 (T1 (qo75 X n))) trivial)) trivial
abbrev P91:List SV:=[V4]
abbrev R91:RV:=.one .str
theorem ok91 (n:Nat):FO 91 P91 R91 (F.zac n):=zf WOf.st (zye _ n) (d:=8) fun _=>by kernel_rfl
noncomputable def o91 (n:Nat):=oc 91 P91 R91 (F.zac n)
noncomputable def cx92 (X:Type) (n:Nat):Cx X:=mkCx tab.get [(92,Tryz.f92)] [o151 n] [] [] [] []
theorem zyf (X:Type) (n:Nat):CxOK Tryz.prog SW (cx92 X n):=mx (T1 (J Tryz.func92 (by decide))) (T1 (zb (ok151 n))) (T1 (okc trivial trivial)) trivial
abbrev P92:List SV:=[V0]
abbrev R92:RV:=.one .str
theorem ok92 (n:Nat):FO 92 P92 R92 (F.zbk n):=zf WOf.st (zyf _ n) (d:=8) fun _=>by kernel_rfl
noncomputable def o92 (n:Nat):=oc 92 P92 R92 (F.zbk n)
def qh76:Shape:=⟨[(1,(.const (.ref 0 0))),(3,.str),(4,V0)],[[.str,V0,V3,V0,V4,V0]],[],[],[],1,0,0⟩
def qe76_0:Shape:=⟨[(1,(.const (.ref 0 0))),(3,.str)],[[.str,V0,V3,V0,V4,V0]],[],[],[],1,0,0⟩
noncomputable def ql76 (X:Type) (n:Nat):LoopI X:=mkLi 8 0 0 0 qh76 [(0,qe76_0)] [] n fun m ks=>F.zau.L3 n (xe qe76_0 ks 0) m
noncomputable def cx46 (X:Type) (n:Nat):Cx X:=mkCx tab.get [(46,Tryz.f46)] [o87 n,o89 n,o90 n,o91 n,o92 n] [(46,3,[ql76 X n])] [] [] []
theorem qo76 (X:Type) (n:Nat):LO (cx46 X n) 46 Tryz.f46 0 (ql76 X n):=lok
theorem zyg (X:Type) (n:Nat):CxOK Tryz.prog SW (cx46 X n):=mx (T1 (J Tryz.func46 (by decide))) (J (zb (ok87 n)) (J (zb (ok89 n)) (J (zb (ok90 n)) (J (zb (ok91 n)) (T1 (zb (ok92 n))))))) (T1 (okc (T1 (T1 (qo76 X n))) trivial)) trivial
abbrev P46:List SV:=[V5]
abbrev R46:RV:=.one .str
theorem ok46 (n:Nat):FO 46 P46 R46 (F.zau n):=zf WOf.st (zyg _ n) (d:=8) fun _=>by kernel_rfl
noncomputable def o46 (n:Nat):=oc 46 P46 R46 (F.zau n)
noncomputable def cx47 (X:Type) (n:Nat):Cx X:=mkCx tab.get [(47,Tryz.f47)] [o87 n,o92 n] [] [] [] []
theorem zyh (X:Type) (n:Nat):CxOK Tryz.prog SW (cx47 X n):=mx (T1 (J Tryz.func47 (by decide))) (J (zb (ok87 n)) (T1 (zb (ok92 n)))) (T1 (okc trivial trivial)) trivial
abbrev P47:List SV:=[V5]
abbrev R47:RV:=.one .str
theorem ok47 (n:Nat):FO 47 P47 R47 (F.zb9 n):=zf WOf.st (zyh _ n) (d:=8) fun _=>by kernel_rfl
noncomputable def o47 (n:Nat):=oc 47 P47 R47 (F.zb9 n)
noncomputable def cx21 (X:Type) (n:Nat):Cx X:=mkCx tab.get [(21,Tryz.f21)] [o45 n,o46 n,o47 n] [] [] [] []
theorem zyi (X:Type) (n:Nat):CxOK Tryz.prog SW (cx21 X n):=mx (T1 (J Tryz.func21 (by decide))) (J (zb (ok45 n)) (J (zb (ok46 n)) (T1 (zb (ok47 n))))) (T1 (okc trivial trivial)) trivial
abbrev P21:List SV:=[V5,V0]
abbrev R21:RV:=.one .str
theorem ok21 (n:Nat):FO 21 P21 R21 (F.zca n):=zf WOf.st (zyi _ n) (d:=8) fun _=>by kernel_rfl
noncomputable def o21 (n:Nat):=oc 21 P21 R21 (F.zca n)
def qh77:Shape:=⟨[(2,V0),(7,.str),(8,V0),(13,(.const (.ref 5 0))),(14,V0)],[[.str,V0,V3,V0,V4,V0],[.str,V0,V3,V0,V4,V0],[V0,V0],[.str,V0,V3,V0,V4,V0],[V0,V0],[.str,V0,V3,V0,V4,V0]],[],[],[],6,0,0⟩
def qe77_r:Shape:=⟨[(6,.bool)],[],[],[],[],0,0,0⟩
noncomputable def ql77 (X:Type) (n:Nat):CutI X:=mkCi 8 0 0 0 qh77 [] [] [qe77_r] fun ks=>F.zz.C13 n (xr qe77_r ks)
def qh78:Shape:=⟨[(1,.str),(2,V0),(3,(.const (.ref 0 0)))],[[.str,V0,V3,V0,V4,V0]],[],[],[],1,0,0⟩
def qe78_r:Shape:=⟨[(6,.bool)],[],[],[],[],0,0,0⟩
noncomputable def ql78 (X:Type) (n:Nat):CutI X:=mkCi 8 0 0 0 qh78 [] [] [qe78_r] fun ks=>F.zz.C3 n (xr qe78_r ks)
noncomputable def cx5 (X:Type) (n:Nat):Cx X:=mkCx tab.get [(5,Tryz.f5)] [o9 n,o13 n,o14 n,o15 n,o16 n,o17 n,o18 n,o19 n,o20 n,o21 n] [] [] [] [] [(5,3,[ql78 X n]),(5,13,[ql77 X n])]
theorem qo77 (X:Type) (n:Nat):CO (cx5 X n) 5 Tryz.f5 14 (ql77 X n):=fun _ _=>by kernel_rfl
theorem qo78 (X:Type) (n:Nat):CO (cx5 X n) 5 Tryz.f5 1 (ql78 X n):=fun _ _=>by kernel_rfl
theorem zzc (X:Type) (n:Nat):CxOK Tryz.prog SW (cx5 X n):=mx (T1 (J Tryz.func5 (by decide))) (J (zb (ok9 n)) (J (zb (ok13 n)) (J (zb (ok14 n)) (J (zb (ok15 n)) (J (zb (ok16 n)) (J (zb (ok17 n)) (J (zb (ok18 n)) (J (zb (ok19 n)) (J (zb (ok20 n)) (T1 (zb (ok21 n)))))))))))) (T1 (okk (J trivial (J (T1 (qo78 X n)) (J trivial (J trivial (J trivial (J trivial (J trivial (J trivial (J trivial (J trivial (J trivial (J trivial (J trivial (J trivial (J (T1 (qo77 X n)) (J trivial (J trivial (J trivial (J trivial (T1 trivial)))))))))))))))))))) trivial trivial)) trivial
abbrev P5:List SV:=[V5,.str,V0]
abbrev R5:RV:=.one .bool
theorem ok5 (n:Nat):FO 5 P5 R5 (F.zz n):=zf WOf.st (zzc _ n) (d:=8) fun _=>by kernel_rfl
end Go.AM
set_option linter.unusedVariables false
set_option linter.unusedSimpArgs false
namespace Go.AM
def isDig (b:UInt8):Bool:=decide (48≤b.toNat)&&decide (b.toNat≤57)
def dv (b:UInt8):Nat:=b.toNat - 48
def valF (a:Nat) (l:List UInt8):Nat:=l.foldl (fun a b=>a*10+dv b) a
theorem zgz (a:Nat):valF a []=a:=rfl
theorem zjn (a:Nat) (b:UInt8) (l:List UInt8):valF a (b::l)=valF (a*10+dv b) l:=by unfold valF; rw [List.foldl_cons]
def val (l:List UInt8):Nat:=valF 0 l
def Digs (l:List UInt8):Prop:=l.all isDig=true
theorem zac {b:UInt8}:isDig b=true↔48≤b.toNat∧b.toNat≤57:=by simp [isDig]
theorem zv {b:UInt8} {l:List UInt8}:Digs (b::l)↔isDig b=true∧Digs l:=by simp [Digs]
theorem zu {l m:List UInt8}:Digs (l++m)↔Digs l∧Digs m:=by simp [Digs]
theorem zbg (k:Nat):Digs (List.replicate k 48):=by
 unfold Digs
 rw [List.all_eq_true]
 intro x hx
 rw [List.eq_of_mem_replicate hx]
 rfl
theorem zq5 {l:List UInt8} (k:Nat) (h:Digs l):Digs (l.take k):=by
 unfold Digs at h ⊢
 rw [List.all_eq_true] at h ⊢
 exact fun x hx=>h x (List.mem_of_mem_take hx)
theorem zf1 {b:UInt8} (h:isDig b=true):dv b<10:=by
 have:=zac.1 h
 unfold dv
 omega
theorem za9 {a b:UInt8} (h:a.toNat=b.toNat):a=b:=UInt8.toNat_inj.1 h
theorem zfg {a b:UInt8} (ha:isDig a=true) (hb:isDig b=true) (h:dv a=dv b):a=b:=by
 have h1:=zac.1 ha
 have h2:=zac.1 hb
 unfold dv at h
 exact za9 (by omega)
theorem zn5 (a:Nat) (l:List UInt8):valF a l=a*10 ^ l.length+val l:=by
 unfold val
 induction l generalizing a with
 | nil=>rw [zgz,zgz]; simp
 | cons b l ih =>
  simp only [zjn,List.length_cons]
  rw [ih (a*10+dv b),ih (0*10+dv b),Nat.pow_succ,Nat.add_mul,Nat.zero_mul,Nat.zero_add,Nat.mul_assoc,Nat.mul_comm 10,Nat.add_assoc]
theorem zcw:val []=0:=rfl
theorem zai (b:UInt8) (l:List UInt8):val (b::l)=dv b*10 ^ l.length+val l:=by
 show valF (0*10+dv b) l=_
 rw [zn5,Nat.zero_mul,Nat.zero_add]
theorem zbk (l m:List UInt8):val (l++m)=val l*10 ^ m.length+val m:=by
 induction l with
 | nil=>simp [zcw]
 | cons b l ih=>rw [List.cons_append,zai,zai,ih,List.length_append,Nat.pow_add,Nat.add_mul,Nat.mul_assoc,Nat.add_assoc]
theorem zb5 (l:List UInt8) (b:UInt8):val (l++[b])=val l*10+dv b:=by rw [zbk,zai]; simp [zcw]
theorem zbw {l:List UInt8} (h:Digs l):val l<10 ^ l.length:=by
 induction l with
 | nil=>simp [zcw]
 | cons b l ih =>
  obtain ⟨h1,h2⟩:=zv.1 h
  have:=ih h2
  have hd:=zf1 h1
  rw [zai,List.length_cons,Nat.pow_succ,Nat.mul_comm (10 ^ l.length)]
  have h3:dv b*10 ^ l.length≤9*10 ^ l.length:=Nat.mul_le_mul_right _ (by omega)
  omega
theorem zv5:dv 48=0:=rfl
theorem zih (k:Nat):val (List.replicate k 48)=0:=by
 induction k with
 | zero=>rfl
 | succ k ih=>rw [List.replicate_succ,zai,ih,zv5]; simp
theorem zdv (k:Nat) (l:List UInt8):val (List.replicate k 48++l)=val l:=by rw [zbk,zih]; simp
theorem zy (k:Nat) (l:List UInt8):val (l++List.replicate k 48)=val l*10 ^ k:=by rw [zbk,zih]; simp
theorem zm7 {l:List UInt8} (hd:Digs l) (h:val l=0):l=List.replicate l.length 48:=by
 induction l with
 | nil=>rfl
 | cons b l ih =>
  obtain ⟨h1,h2⟩:=zv.1 hd
  rw [zai] at h
  have hp:0<10 ^ l.length:=Nat.pow_pos (by omega)
  have h3:dv b=0:=by
   cases hb:dv b with
   | zero=>rfl
   | succ k=>rw [hb,Nat.succ_mul] at h; omega
  rw [List.length_cons,List.replicate_succ,← ih h2 (by omega)]
  rw [zfg (a:=b) (b:=48) h1 rfl h3]
theorem zii {l m:List UInt8} (hl:Digs l) (hm:Digs m) (hlen:l.length=m.length) (h:val l=val m):l=m:=by
 induction l generalizing m with
 | nil=>cases m with
  | nil=>rfl
  | cons=>simp at hlen
 | cons b l ih=>cases m with
  | nil=>simp at hlen
  | cons c m =>
   obtain ⟨h1,h2⟩:=zv.1 hl
   obtain ⟨h3,h4⟩:=zv.1 hm
   have hlen:l.length=m.length:=by simpa using hlen
   rw [zai,zai,hlen] at h
   have b1:=zbw h2
   have b2:=zbw h4
   rw [hlen] at b1
   have hp:0<10 ^ m.length:=Nat.pow_pos (by omega)
   have e:dv b=dv c:=by
    have q1:=congrArg (· / 10 ^ m.length) h
    simp only [Nat.mul_comm (dv b),Nat.mul_comm (dv c),Nat.mul_add_div hp,Nat.div_eq_of_lt b1,Nat.div_eq_of_lt b2] at q1
    omega
   rw [e] at h
   rw [zfg h1 h3 e,ih h2 h4 hlen (by omega)]
theorem zq6 (k:Nat) (h:k<10):(UInt8.ofNat (48+k)).toNat=48+k:=by simp [UInt8.toNat_ofNat']; omega
theorem zlh (k:Nat) (h:k<10):isDig (UInt8.ofNat (48+k))=true:=by rw [zac,zq6 k h]; omega
theorem zv6 (k:Nat) (h:k<10):dv (UInt8.ofNat (48+k))=k:=by unfold dv; rw [zq6 k h]; omega
theorem zb6 {u:Nat} (h:u<10):Lib.decDigits u=[UInt8.ofNat (48+u)]:=Lib.decDigits_one h
theorem zhw {u:Nat} (h:¬ u<10):Lib.decDigits u=Lib.decDigits (u / 10)++[UInt8.ofNat (48+u % 10)]:=by rw [Lib.decDigits,dif_neg h]
theorem zax (u:Nat):Digs (Lib.decDigits u):=by
 induction u using Nat.strongRecOn with
 | _ u ih =>
  by_cases h:u<10
  · rw [zb6 h,zv]; exact ⟨zlh u h,rfl⟩
  · rw [zhw h,zu,zv]
    exact ⟨ih _ (by omega),zlh _ (by omega),rfl⟩
theorem zbx (u:Nat):val (Lib.decDigits u)=u:=by
 induction u using Nat.strongRecOn with
 | _ u ih =>
  by_cases h:u<10
  · rw [zb6 h,zai,zv6 u h]; simp [zcw]
  · rw [zhw h,zb5,ih _ (by omega),zv6 _ (by omega)]; omega
theorem zcg (u:Nat):(Lib.decDigits u).length=Lib.nDigits u:=Lib.decDigits_length u
theorem zfh {u k:Nat} (hk:0<k) (h:u<10 ^ k):(Lib.decDigits u).length≤k:=by
 rw [zcg]
 induction k generalizing u with
 | zero=>omega
 | succ k ih =>
  by_cases h1:u<10
  · rw [Lib.nDigits_small h1]; omega
  · rw [Lib.nDigits_big h1]
    cases k with
    | zero=>simp at h; omega
    | succ k =>
     have:=ih (u:=u / 10) (by omega) (by rw [Nat.pow_succ] at h; omega)
     omega
def Norm (l:List UInt8):Prop:=l≠[]∧(l.head? = some 48→l.length=1)
theorem pu10 (acc:Nat) (l:List UInt8) (hd:Digs l) (ha:acc<18446744073709551616):Lib.parseUint10 acc l=if valF acc l<18446744073709551616 then .ok (valF acc l) else .range:=by
 induction l generalizing acc with
 | nil=>rw [zgz,if_pos ha]; rfl
 | cons b l ih =>
  obtain ⟨h1,h2⟩:=zv.1 hd
  have hb:=zac.1 h1
  have hmono:∀ x,x≤valF x l:=fun x=>by
   rw [zn5]
   have:0<10 ^ l.length:=Nat.pow_pos (by omega)
   have:=Nat.le_mul_of_pos_right x this
   omega
  have hm:=hmono (acc*10+dv b)
  simp only [Lib.parseUint10,hb,and_self,if_true]
  rw [zjn]
  generalize hV:valF (acc*10+dv b) l=V at hm ⊢
  unfold dv at hm
  by_cases h3:1844674407370955162≤acc
  · rw [if_pos h3,if_neg (by omega)]
  · rw [if_neg h3]
    by_cases h4:18446744073709551616≤acc*10+(b.toNat - 48)
    · rw [if_pos h4,if_neg (by omega)]
    · rw [if_neg h4,ih _ h2 (by omega)]
      have:valF (acc*10+(b.toNat - 48)) l=V:=hV
      rw [this]
theorem zq7 {l:List UInt8} (hd:Digs l) (hn:l≠[]):Lib.atoiAll l=if val l<9223372036854775808 then .ok (val l:Int) else .range:=by
 cases l with
 | nil=>exact absurd rfl hn
 | cons b r =>
  have hb:=zac.1 (zv.1 hd).1
  simp only [Lib.atoiAll]
  rw [if_neg (by omega)]
  unfold Lib.parseMag
  rw [if_neg (by simp),pu10 0 _ hd (by omega)]
  have e:valF 0 (b::r)=val (b::r):=rfl
  rw [e]
  by_cases h1:val (b::r)<18446744073709551616
  · rw [if_pos h1]
    simp only []
    by_cases h2:val (b::r)<9223372036854775808
    · rw [if_pos h2,if_neg (by omega),if_neg (by omega),if_neg (by omega)]
    · rw [if_neg h2,if_pos (by omega)]
  · rw [if_neg h1,if_neg (by omega)]
def trz:List UInt8→List UInt8
 | []=>[]
 | b::l=>if trz l=[] then (if b=48 then [] else [b]) else b::trz l
theorem zq8 (l:List UInt8) (c:UInt8):∃ k,l=Lib.trimRightB l c++List.replicate k c∧(∀ x,(Lib.trimRightB l c).getLast? = some x→x≠c):=by
 have h:=List.takeWhile_append_dropWhile (p:=fun b:UInt8=>b==c) (l:=l.reverse)
 refine ⟨(l.reverse.takeWhile (· == c)).length,?_,?_⟩
 · unfold Lib.trimRightB
   have h2:=congrArg List.reverse h
   rw [List.reverse_append,List.reverse_reverse] at h2
   have h3:(l.reverse.takeWhile (· == c)).reverse=List.replicate (l.reverse.takeWhile (· == c)).length c:=by
    rw [List.eq_replicate_iff]
    refine ⟨by simp,fun b hb => ?_⟩
    have:=List.all_eq_true.1 (List.all_takeWhile (p:=fun b:UInt8=>b==c) (l:=l.reverse)) b (List.mem_reverse.1 hb)
    simpa using this
   rw [h3] at h2
   exact h2.symm
 · intro x hx
   unfold Lib.trimRightB at hx
   rw [List.getLast?_reverse] at hx
   have:=List.head?_dropWhile_not (p:=fun b:UInt8=>b==c) (l:=l.reverse)
   rw [hx] at this
   simpa using this
theorem zbl (l:List UInt8):∃ k,l=trz l++List.replicate k 48∧(∀ x,(trz l).getLast? = some x→x≠48):=by
 induction l with
 | nil=>exact ⟨0,rfl,by simp [trz]⟩
 | cons b l ih =>
  obtain ⟨k,h1,h2⟩:=ih
  unfold trz
  by_cases h:trz l=[]
  · rw [if_pos h]
    rw [h,List.nil_append] at h1
    by_cases hb:b=48
    · rw [if_pos hb]
      exact ⟨k+1,by rw [List.replicate_succ,← h1,hb]; rfl,by simp⟩
    · rw [if_neg hb]
      exact ⟨k,by rw [← h1]; rfl,by simp [hb]⟩
  · rw [if_neg h]
    refine ⟨k,by rw [List.cons_append,← h1],?_⟩
    intro x hx
    rw [List.getLast?_cons] at hx
    cases e:(trz l).getLast? with
    | none=>simp at e; exact absurd e h
    | some y =>
     rw [e] at hx
     have hy:=h2 y e
     simp at hx
     rw [← hx]; exact hy
theorem zg0 {a b:List UInt8} {c:UInt8} {i j:Nat} (h:a++List.replicate i c=b++List.replicate j c) (ha:∀ x,a.getLast? = some x→x≠c) (hb:∀ x,b.getLast? = some x→x≠c):a=b:=by
 induction i generalizing j with
 | zero =>
  cases j with
  | zero=>simpa using h
  | succ j =>
   rw [List.replicate_succ',← List.append_assoc] at h
   simp only [List.replicate_zero,List.append_nil] at h
   exact absurd rfl (ha c (by rw [h]; simp))
 | succ i ih =>
  cases j with
  | zero =>
   rw [List.replicate_succ',← List.append_assoc] at h
   simp only [List.replicate_zero,List.append_nil] at h
   exact absurd rfl (hb c (by rw [← h]; simp))
  | succ j =>
   rw [List.replicate_succ',List.replicate_succ',← List.append_assoc,← List.append_assoc] at h
   exact ih (List.append_inj_left' h rfl)
theorem zjo (l:List UInt8):Lib.trimRightB l 48=trz l:=by
 obtain ⟨i,h1,h2⟩:=zq8 l 48
 obtain ⟨j,h3,h4⟩:=zbl l
 exact zg0 (h1.symm.trans h3) h2 h4
theorem zjp (l:List UInt8) (k:Nat):trz (l++List.replicate k 48)=trz l:=by
 obtain ⟨i,h1,h2⟩:=zbl (l++List.replicate k 48)
 obtain ⟨j,h3,h4⟩:=zbl l
 refine zg0 (i:=i) (j:=j+k) (c:=48) ?_ h2 h4
 rw [← h1]
 conv=>lhs; rw [h3]
 rw [List.append_assoc,List.replicate_append_replicate]
theorem zli {l:List UInt8} (h:∀ x,l.getLast? = some x→x≠48):trz l=l:=by
 obtain ⟨j,h3,h4⟩:=zbl l
 exact (zg0 (i:=0) (j:=j) (c:=48) (by rw [← h3]; simp) h h4).symm
theorem zc2 (l:List UInt8):(trz l).length≤l.length:=by
 obtain ⟨k,h1,_⟩:=zbl l
 have:=congrArg List.length h1
 simp at this
 omega
theorem zc3 {l:List UInt8} (h:Digs l):Digs (trz l):=by
 obtain ⟨k,h1,_⟩:=zbl l
 rw [h1,zu] at h
 exact h.1
theorem zbr (l:List UInt8):l=trz l++List.replicate (l.length - (trz l).length) 48:=by
 obtain ⟨k,h1,_⟩:=zbl l
 have:=congrArg List.length h1
 simp at this
 rw [show l.length - (trz l).length=k from by omega]
 exact h1
theorem zb7 {l:List UInt8} {x:UInt8} (h:(trz l).getLast? = some x):x≠48:=by
 obtain ⟨k,_,h2⟩:=zbl l
 exact h2 x h
theorem zf2 {l:List UInt8} (hd:Digs l):trz l=[]↔val l=0:=by
 constructor
 · intro h
   have:=zbr l
   rw [h,List.nil_append] at this
   rw [this,zih]
 · intro h
   have:=zm7 hd h
   obtain ⟨k,h1,h2⟩:=zbl l
   rw [this] at h1 ⊢
   have:=zjp [] l.length
   simpa [trz] using this
theorem zyj (b c:UInt8) (l m:List UInt8):Op.bytesLess (b::l) (c::m)=(decide (b.toNat<c.toNat)||(decide (b.toNat=c.toNat)&&Op.bytesLess l m)):=by
 show (decide (b<c)||((b==c)&&Op.bytesLess l m))=_
 congr 1
 congr 1
 by_cases h:b=c
 · simp [h]
 · have:¬ b.toNat=c.toNat:=fun hh=>h (za9 hh)
   simp [h,this]
theorem zur {l m:List UInt8} (hl:Digs l) (hm:Digs m) (hlen:l.length=m.length):Op.bytesLess l m=decide (val l<val m):=by
 induction l generalizing m with
 | nil=>cases m with
  | nil=>rfl
  | cons=>simp at hlen
 | cons b l ih=>cases m with
  | nil=>simp at hlen
  | cons c m =>
   obtain ⟨h1,h2⟩:=zv.1 hl
   obtain ⟨h3,h4⟩:=zv.1 hm
   have hlen:l.length=m.length:=by simpa using hlen
   have b1:=zbw h2
   have b2:=zbw h4
   rw [hlen] at b1
   have d1:=zac.1 h1
   have d2:=zac.1 h3
   rw [zyj,zai,zai,hlen]
   by_cases hn:b.toNat<c.toNat
   · have:(dv b+1)*10 ^ m.length≤dv c*10 ^ m.length:=Nat.mul_le_mul_right _ (by unfold dv; omega)
     rw [Nat.add_mul] at this
     have h5:dv b*10 ^ m.length+val l<dv c*10 ^ m.length+val m:=by omega
     simp [hn,h5]
   · by_cases hn':c.toNat<b.toNat
     · have:(dv c+1)*10 ^ m.length≤dv b*10 ^ m.length:=Nat.mul_le_mul_right _ (by unfold dv; omega)
       rw [Nat.add_mul] at this
       have h5:¬ dv b*10 ^ m.length+val l<dv c*10 ^ m.length+val m:=by omega
       have h6:¬ b.toNat=c.toNat:=by omega
       simp [hn,h5,h6]
     · rw [ih h2 h4 hlen]
       have:b=c:=za9 (by omega)
       subst this
       simp
end Go.AM
set_option linter.unusedVariables false
set_option linter.unusedSimpArgs false
namespace Go.AM
abbrev DecD:=Bool×Int×Int×Unit
abbrev DecR:=DecD×Int×Unit
def two64:Nat:=18446744073709551616
theorem zz:two64=18446744073709551616:=rfl
def normR (neg:Bool) (c0:Nat) (E:Int):DecR:=
 if E < -18 then ((false,0,0,()),10,()) else if c0*10 ^ (E - 18).toNat<two64 then ((neg,((c0*10 ^ (E - 18).toNat:Nat):Int),(if E≤18 then E else 18),()),0,()) else ((false,0,0,()),10,())
def zeroD:DecR:=((false,0,0,()),0,())
def valR (neg:Bool) (d:List UInt8) (e:Int):DecR:=
 if val d=0 then zeroD else normR neg (val (trz d)) (e+((d.length - (trz d).length:Nat):Int))
theorem zn6 (d:List UInt8):val d=val (trz d)*10 ^ (d.length - (trz d).length):=by
 have:=congrArg val (zbr d)
 rw [zy] at this
 exact this
theorem zg1 {d:List UInt8} (hd:Digs d) (h:val d≠0):val (trz d) % 10≠0:=by
 have hne:trz d≠[]:=fun hh=>h ((zf2 hd).1 hh)
 obtain ⟨x,hx⟩:∃ x,(trz d).getLast? = some x:=by
  cases e:(trz d).getLast? with
  | none=>simp at e; exact absurd e hne
  | some x=>exact ⟨x,rfl⟩
 have hx48:=zb7 hx
 obtain ⟨ys,hys⟩:=List.getLast?_eq_some_iff.1 hx
 have hdig:=zc3 hd
 rw [hys] at hdig ⊢
 obtain ⟨_,h2⟩:=zu.1 hdig
 obtain ⟨h3,_⟩:=zv.1 h2
 rw [zb5]
 have:=zf1 h3
 have h0:dv x≠0:=fun h0=>hx48 (zfg h3 (b:=48) rfl h0)
 omega
theorem zm8 {a b i j:Nat} (ha:a % 10≠0) (hb:b % 10≠0) (h:a*10 ^ i=b*10 ^ j):a=b∧i=j:=by
 induction i generalizing j with
 | zero =>
  cases j with
  | zero=>simpa using h
  | succ j=>rw [Nat.pow_zero,Nat.mul_one,Nat.pow_succ,← Nat.mul_assoc] at h; omega
 | succ i ih =>
  cases j with
  | zero=>rw [Nat.pow_zero,Nat.mul_one,Nat.pow_succ,← Nat.mul_assoc] at h; omega
  | succ j =>
   rw [Nat.pow_succ,Nat.pow_succ,← Nat.mul_assoc,← Nat.mul_assoc] at h
   obtain ⟨h1,h2⟩:=ih (Nat.eq_of_mul_eq_mul_right (by omega) h)
   exact ⟨h1,by omega⟩
theorem zah {d:List UInt8} (hd:Digs d) {c0 z:Nat} (h0:c0 % 10≠0) (hv:val d=c0*10 ^ z) (neg:Bool) (e:Int):valR neg d e=normR neg c0 (e+z):=by
 have hne:val d≠0:=by
  rw [hv]
  have:=Nat.mul_pos (show 0<c0 by omega) (Nat.pow_pos (n:=z) (show 0<10 by omega))
  omega
 unfold valR
 rw [if_neg hne]
 obtain ⟨h1,h2⟩:=zm8 (zg1 hd hne) h0 ((zn6 d).symm.trans hv)
 rw [h1,h2]
theorem zch (c:Nat) (h:0<c):∃ c0 z,c=c0*10 ^ z∧c0 % 10≠0:=by
 induction c using Nat.strongRecOn with
 | _ c ih =>
  by_cases h1:c % 10=0
  · obtain ⟨c0,z,h2,h3⟩:=ih (c / 10) (by omega) (by omega)
    exact ⟨c0,z+1,by rw [Nat.pow_succ,← Nat.mul_assoc,← h2]; omega,h3⟩
  · exact ⟨c,0,by simp,h1⟩
theorem zc4 (neg:Bool) {d:List UInt8} (hd:Digs d) (k:Nat) (e:Int):valR neg (d++List.replicate k 48) e=valR neg d (e+k):=by
 have hD:Digs (d++List.replicate k 48):=zu.2 ⟨hd,zbg _⟩
 by_cases h:val d=0
 · have:val (d++List.replicate k 48)=0:=by rw [zy,h]; simp
   unfold valR
   rw [if_pos h,if_pos this]
 · obtain ⟨c0,z,h1,h2⟩:=zch (val d) (by omega)
   rw [zah hd h2 h1,zah hD h2 (z:=z+k) (by rw [zy,h1,Nat.pow_add,Nat.mul_assoc])]
   congr 1
   omega
theorem zlj (n:Nat) (c d:Nat) (hc:c<two64) (hd:d<two64):F.zcj n (c:Int) (d:Int)=some ((((c*10+d) % two64:Nat):Int),decide (c*10+d<two64),()):=by
 unfold F.zcj O.mul64
 rw [zz] at *
 rw [zd (by omega),za]
 unfold O.add64
 rw [show (c:Int).toNat=c from rfl,show (10:Int).toNat=10 from rfl]
 dsimp only
 rw [zd (by omega),za]
 simp only [Int.toNat_natCast,show (0:Int).toNat=0 from rfl,Nat.add_zero]
 by_cases h:c*10<18446744073709551616
 · have e1:((((c*10 / 18446744073709551616:Nat):Int))==0)=true:=by simp; omega
   rw [e1,cond_true]
   have e2:c*10 % 18446744073709551616=c*10:=Nat.mod_eq_of_lt h
   rw [e2]
   congr 2
   congr 1
   by_cases h2:c*10+d<18446744073709551616
   · have:(c*10+d) / 18446744073709551616=0:=Nat.div_eq_of_lt h2
     simp [h2,this]
   · have:¬ (c*10+d) / 18446744073709551616=0:=by omega
     have e:((((c*10+d) / 18446744073709551616:Nat):Int)==0)=false:=by simp; omega
     rw [e]; simp [h2]
 · have e1:((((c*10 / 18446744073709551616:Nat):Int))==0)=false:=by simp; omega
   rw [e1,cond_false]
   have:¬ c*10+d<18446744073709551616:=by omega
   simp only [this,decide_false]
   congr 2
   omega
theorem zo3 (n:Nat) (X:Type) (k0:Bool→Int→Int→Bool→Int→Int→Option X) (neg b:Bool) (x y:Int) (c0:Nat) (h0:c0 % 10≠0):∀ (z m:Nat) (e:Int),c0*10 ^ z<two64→-9223372036854775808≤e→e+z≤9223372036854775807→z<m →
 ∃ j,j≤z∧F.zf.L3 n k0 m neg ((c0*10 ^ z:Nat):Int) e b x y=k0 neg ((c0*10 ^ j:Nat):Int) (e+z - j) b x y∧(j=0∨18≤e+z - j)∧(e+z - j≤18∨j=z):=by
 intro z
 induction z with
 | zero =>
  intro m e hc he1 he2 hm
  obtain ⟨m,rfl⟩:∃ q,m=q+1:=⟨m - 1,by omega⟩
  refine ⟨0,Nat.le_refl _,?_,Or.inl rfl,Or.inr rfl⟩
  show F.zf.L3.step n _ k0 _ _ _ _ _ _=_
  unfold F.zf.L3.step
  have e1:((((c0*10 ^ 0:Nat):Int).tmod 10)==0)=false:=by
   rw [Nat.pow_zero,Nat.mul_one]
   have:¬ ((c0:Int).tmod 10)=0:=by
    rw [show ((c0:Int).tmod 10)=((c0 % 10:Nat):Int) from rfl]; omega
   simpa using this
  rw [e1,cond_false]
  congr 1
  omega
 | succ z ih =>
  intro m e hc he1 he2 hm
  obtain ⟨m,rfl⟩:∃ q,m=q+1:=⟨m - 1,by omega⟩
  have hstep:F.zf.L3 n k0 (m+1) neg ((c0*10 ^ (z+1):Nat):Int) e b x y=F.zf.L3.step n (F.zf.L3 n k0 m) k0 neg ((c0*10 ^ (z+1):Nat):Int) e b x y:=rfl
  have hmul:c0*10 ^ (z+1)=c0*10 ^ z*10:=by rw [Nat.pow_succ,Nat.mul_assoc]
  have e1:((((c0*10 ^ (z+1):Nat):Int).tmod 10)==0)=true:=by
   have:((c0*10 ^ (z+1):Nat):Int).tmod 10=0:=by
    rw [show (((c0*10 ^ (z+1):Nat):Int).tmod 10)=((c0*10 ^ (z+1) % 10:Nat):Int) from rfl]; omega
   simpa using this
  have e2:((c0*10 ^ (z+1):Nat):Int).tdiv 10=((c0*10 ^ z:Nat):Int):=by
   rw [show (((c0*10 ^ (z+1):Nat):Int).tdiv 10)=((c0*10 ^ (z+1) / 10:Nat):Int) from rfl]; omega
  rw [hstep]
  unfold F.zf.L3.step
  rw [e1,cond_true]
  by_cases h18:e<18
  · rw [zd h18,e2,IntWalk.u64_in _ (by rw [zz] at hc; omega),zi (by omega)]
    obtain ⟨j,j1,j2,j3,j4⟩:=ih m (e+1) (by omega) (by omega) (by omega) (by omega)
    refine ⟨j,by omega,?_,?_,?_⟩
    · rw [j2]
      congr 1
      omega
    · rcases j3 with j3 | j3
      · exact Or.inl j3
      · exact Or.inr (by omega)
    · rcases j4 with j4 | j4
      · exact Or.inl (by omega)
      · exact Or.inl (by omega)
  · rw [ze h18]
    refine ⟨z+1,Nat.le_refl _,?_,Or.inr (by omega),Or.inr rfl⟩
    congr 1
    omega
theorem zjq (n:Nat) (X:Type) (k2:Bool→Int→Int→Bool→Int→Int→Option X) (K:Int→Bool→Int→Int→Option X) (neg b:Bool) (x y:Int):∀ (m c d:Nat),0<c→c<two64→two64≤c*10 ^ m→18+(d:Int)≤9223372036854775807 →
 F.zf.L5 n k2 (fun q _ _ _ u v w=>K q u v w) (m+1) neg (c:Int) (18+(d:Int)) b x y=if c*10 ^ d<two64 then k2 neg ((c*10 ^ d:Nat):Int) 18 b x y else K 10 false 0 0:=by
 intro m
 induction m with
 | zero=>intro c d h1 h2 h3; rw [Nat.pow_zero,Nat.mul_one] at h3; omega
 | succ m ih =>
  intro c d h1 h2 h3 h4
  have hstep:F.zf.L5 n k2 (fun q _ _ _ u v w=>K q u v w) (m+1+1) neg (c:Int) (18+(d:Int)) b x y=F.zf.L5.step n (F.zf.L5 n k2 (fun q _ _ _ u v w=>K q u v w) (m+1)) k2 (fun q _ _ _ u v w=>K q u v w) neg (c:Int) (18+(d:Int)) b x y:=rfl
  rw [hstep]
  unfold F.zf.L5.step
  cases d with
  | zero =>
   rw [ze (by omega),Nat.pow_zero,Nat.mul_one,if_pos h2]
   rfl
  | succ d =>
   rw [zd (by omega),show (0:Int)=((0:Nat):Int) from rfl,zlj n c 0 h2 (by decide),za]
   have hp:c*10≤c*10 ^ (d+1):=by
    rw [Nat.pow_succ,← Nat.mul_assoc]
    have:0<10 ^ d:=Nat.pow_pos (by omega)
    have:=Nat.le_mul_of_pos_right c this
    omega
   by_cases hf:c*10+0<two64
   · simp only [hf,decide_true,Bool.not_true,cond_false]
     rw [zi (by omega),show (18+((d+1:Nat):Int) - 1)=18+(d:Int) from by omega,Nat.mod_eq_of_lt hf]
     have:=ih (c*10+0) d (by omega) hf (by rw [Nat.pow_succ] at h3; rw [Nat.add_zero,Nat.mul_assoc,Nat.mul_comm 10]; exact h3) (by omega)
     rw [show ((0:Nat):Int)=(0:Int) from rfl] at *
     rw [this,Nat.add_zero,Nat.mul_assoc,Nat.mul_comm 10,← Nat.pow_succ]
   · have:¬ c*10 ^ (d+1)<two64:=by omega
     simp only [hf,decide_false,Bool.not_false,cond_true]
     rw [if_neg this]
theorem zm9 (n:Nat) (hn:100≤n) (neg:Bool) (c0 z:Nat) (h0:c0 % 10≠0) (hc:c0*10 ^ z<two64) (e:Int) (he : -9223372036854775808≤e∧e≤9223372036854775807) :
 F.zf n (neg,((c0*10 ^ z:Nat):Int),e,())=some (normR neg c0 (e+z)):=by
 have hz:z≤20:=by
  refine Classical.byContradiction fun hh => ?_
  have h1:10 ^ 20≤10 ^ z:=Nat.pow_le_pow_right (by omega) (by omega)
  have h2:=Nat.le_mul_of_pos_left (10 ^ z) (show 0<c0 by omega)
  rw [zz] at hc
  omega
 have hpos:0<c0*10 ^ z:=Nat.mul_pos (by omega) (Nat.pow_pos (by omega))
 unfold F.zf
 have e0:(((c0*10 ^ z:Nat):Int)==0)=false:=by
  have:¬ ((c0*10 ^ z:Nat):Int)=0:=by omega
  simpa using this
 simp only [e0,cond_false]
 by_cases hbig:9223372036854775807<e+z
 ·
  have h18:¬ e<18:=by omega
  obtain ⟨m,rfl⟩:∃ q,n=q+1:=⟨n - 1,by omega⟩
  have hs:∀ (k0:Bool→Int→Int→Bool→Int→Int→Option DecR),F.zf.L3 (m+1) k0 (m+1) neg ((c0*10 ^ z:Nat):Int) e false 0 0=k0 neg ((c0*10 ^ z:Nat):Int) e false 0 0:=by
   intro k0
   show F.zf.L3.step (m+1) (F.zf.L3 (m+1) k0 m) k0 _ _ _ _ _ _=_
   unfold F.zf.L3.step
   rw [ze h18]
   cases (((c0*10 ^ z:Nat):Int).tmod 10==0)<;>rfl
  rw [hs]
  obtain ⟨d,hd⟩:∃ d:Nat,e=18+(d:Int):=⟨(e - 18).toNat,by omega⟩
  have hfuel:two64≤c0*10 ^ z*10 ^ m:=by
   have h1:10 ^ 20≤10 ^ m:=Nat.pow_le_pow_right (by omega) (by omega)
   have h2:=Nat.le_mul_of_pos_left (10 ^ m) hpos
   rw [zz]
   omega
  rw [hd,zjq (m+1) _ _ (fun q u v w=>some ((u,v,w,()),q,())) neg false 0 0 m _ d hpos hc hfuel (by omega)]
  have hnot:∀ w,20≤w→¬ c0*10 ^ w<two64:=by
   intro w hw
   have h1:10 ^ 20≤10 ^ w:=Nat.pow_le_pow_right (by omega) hw
   have h2:=Nat.le_mul_of_pos_left (10 ^ w) (show 0<c0 by omega)
   rw [zz]
   omega
  unfold normR
  rw [if_neg (show ¬ 18+(d:Int)+z < -18 by omega),if_neg (by rw [Nat.mul_assoc,← Nat.pow_add]; exact hnot _ (by omega)),if_neg (hnot _ (by omega))]
 · obtain ⟨j,j1,j2,j3,j4⟩:=zo3 n DecR (fun e1_b0_0 e1_b0_1 e1_b0_2 e1_b1_0 e1_b1_1 e1_b1_2 =>
    F.zf.L5 n
     (fun e3_b0_0 e3_b0_1 e3_b0_2 e3_b1_0 e3_b1_1 e3_b1_2 =>
      bif decide (e3_b0_2<(-18:Int)) then
       some (((false,(0:Int),(0:Int),()),(10:Int),()))
      else
       some (((e3_b0_0,e3_b0_1,e3_b0_2,()),(0:Int),())))
     (fun e4_3 e4_b0_0 e4_b0_1 e4_b0_2 e4_b1_0 e4_b1_1 e4_b1_2 =>
      some (((e4_b1_0,e4_b1_1,e4_b1_2,()),e4_3,()))) n e1_b0_0 e1_b0_1 e1_b0_2 e1_b1_0 e1_b1_1 e1_b1_2) neg false 0 0 c0 h0 z n e hc he.1 (by omega) (by omega)
   refine j2.trans ?_
   have hcj:c0*10 ^ j<two64:=by
    have h1:10 ^ j≤10 ^ z:=Nat.pow_le_pow_right (by omega) j1
    have:=Nat.mul_le_mul_left c0 h1
    omega
   have hposj:0<c0*10 ^ j:=Nat.mul_pos (by omega) (Nat.pow_pos (by omega))
   obtain ⟨m,rfl⟩:∃ q,n=q+1:=⟨n - 1,by omega⟩
   by_cases hE:18≤e+z - j
   · obtain ⟨d,hd⟩:∃ d:Nat,e+z - j=18+(d:Int):=⟨(e+z - j - 18).toNat,by omega⟩
     have hfuel:two64≤c0*10 ^ j*10 ^ m:=by
      have h1:10 ^ 20≤10 ^ m:=Nat.pow_le_pow_right (by omega) (by omega)
      have h2:=Nat.le_mul_of_pos_left (10 ^ m) hposj
      rw [zz]
      omega
     show F.zf.L5 (m+1) _ _ (m+1) neg _ (e+z - j) false 0 0=_
     rw [hd,zjq (m+1) _ _ (fun q u v w=>some ((u,v,w,()),q,())) neg false 0 0 m _ d hposj hcj hfuel (by omega)]
     unfold normR
     rw [if_neg (show ¬ e+z < -18 by omega),Nat.mul_assoc,← Nat.pow_add,show j+d=(e+z - 18).toNat from by omega]
     by_cases hf:c0*10 ^ (e+z - 18).toNat<two64
     · rw [if_pos hf,if_pos hf,ze (by omega)]
       congr 3
       by_cases hh:e+z≤18
       · rw [if_pos hh,show e+(z:Int)=18 from by omega]
       · rw [if_neg hh]
     · rw [if_neg hf,if_neg hf]
   · have hj0:j=0:=by omega
     subst hj0
     have hlow:∀ (k2:Bool→Int→Int→Bool→Int→Int→Option DecR) (kr:Int→Bool→Int→Int→Bool→Int→Int→Option DecR) (c:Int) (E:Int),¬ E>18→F.zf.L5 (m+1) k2 kr (m+1) neg c E false 0 0=k2 neg c E false 0 0:=by
      intro k2 kr c E hE
      show F.zf.L5.step (m+1) (F.zf.L5 (m+1) k2 kr m) k2 kr neg c E false 0 0=_
      unfold F.zf.L5.step
      rw [ze hE]
     rw [hlow _ _ _ _ (by omega)]
     unfold normR
     rw [Nat.pow_zero,Nat.mul_one,show (e+(z:Int) - 18).toNat=0 from by omega,Nat.pow_zero,Nat.mul_one,show (e+(z:Int) - ((0:Nat):Int))=e+z from by omega]
     by_cases h18:e+z < -18
     · rw [zd h18,if_pos h18]
     · rw [ze h18,if_neg h18,if_pos (by rw [Nat.pow_zero,Nat.mul_one] at hcj; exact hcj),if_pos (by omega)]
theorem zdg (n:Nat) (hn:100≤n) (neg:Bool) (c:Nat) (hc:c<two64) (e:Int) (he : -9223372036854775808≤e∧e≤9223372036854775807):F.zf n (neg,(c:Int),e,())=some (valR neg (Lib.decDigits c) e):=by
 by_cases h:c=0
 · subst h
   unfold valR
   rw [if_pos (zbx 0)]
   rfl
 · obtain ⟨c0,z,h1,h2⟩:=zch c (by omega)
   rw [zah (zax c) h2 (by rw [zbx]; exact h1)]
   rw [h1] at hc ⊢
   exact zm9 n hn neg c0 z h2 hc e he
end Go.AM
set_option linter.unusedVariables false
set_option linter.unusedSimpArgs false
namespace Go.AM
def lz (d:List UInt8):List UInt8:=d.dropWhile (· == 48)
theorem zlk (d:List UInt8):d=List.replicate (d.length - (lz d).length) 48++lz d:=by
 induction d with
 | nil=>rfl
 | cons b d ih =>
  unfold lz at ih ⊢
  by_cases h:b=48
  · subst h
    have e:((48:UInt8)::d).dropWhile (· == 48)=d.dropWhile (· == 48):=by simp [List.dropWhile_cons]
    have hl:(d.dropWhile (· == 48)).length≤d.length:=(List.dropWhile_sublist _).length_le
    rw [e,List.length_cons,show d.length+1 - (d.dropWhile (· == 48)).length=(d.length - (d.dropWhile (· == 48)).length)+1 from by omega,List.replicate_succ,List.cons_append,← ih]
  · have e:(b::d).dropWhile (· == 48)=b::d:=by simp [List.dropWhile_cons,h]
    rw [e]
    simp
theorem zn7 {d:List UInt8} {x:UInt8} (h:(lz d).head? = some x):x≠48:=by
 have:=List.head?_dropWhile_not (p:=fun b:UInt8=>b==48) (l:=d)
 unfold lz at h
 rw [h] at this
 simpa using this
theorem zfi (d:List UInt8):val (lz d)=val d:=by
 conv=>rhs; rw [zlk d]
 rw [zdv]
theorem zf3 {d:List UInt8} (h:Digs d):Digs (lz d):=by
 rw [zlk d,zu] at h
 exact h.2
theorem zv7 (d:List UInt8):(lz d).length≤d.length:=(List.dropWhile_sublist _).length_le
theorem zo4 (x:UInt8):((x.toNat:Int)==48)=decide (x=48):=by
 by_cases h:x=48
 · subst h; rfl
 · have:¬ (x.toNat:Int)=48:=fun hh=>h (za9 (by simp; omega))
   rw [beq_eq_false_iff_ne.2 this,decide_eq_false h]
theorem zus (a:List UInt8) (j:Nat):idx (a++List.replicate (j+1) (48:UInt8)) (((a++List.replicate (j+1) (48:UInt8)).length:Int) - 1)=some 48∧sub (a++List.replicate (j+1) (48:UInt8)) 0 (((a++List.replicate (j+1) (48:UInt8)).length:Int) - 1)=some (a++List.replicate j 48):=by
 rw [List.replicate_succ',← List.append_assoc]
 have hlen:(a++List.replicate j (48:UInt8)++[48]).length=a.length+j+1:=by simp; omega
 refine ⟨?_,?_⟩
 · rw [zec (by omega),← List.getLast?_eq_getElem?]; simp
 · have:=zo (a++List.replicate j (48:UInt8)++[48]) 0 (a.length+j) (by omega) (by rw [hlen]; omega)
   rw [hlen,show (((a.length+j+1:Nat):Int) - 1)=((a.length+j:Nat):Int) from by omega]
   refine this.trans ?_
   rw [List.drop_zero,List.take_append_of_le_length (by simp),List.take_of_length_le (by simp)]
theorem zut {a:List UInt8} (ha:a≠[]) (hl:∀ x,a.getLast? = some x→x≠48):∃ x,idx a ((a.length:Int) - 1)=some x∧x≠48:=by
 have hp:0<a.length:=List.length_pos_iff.2 ha
 rw [zec hp,← List.getLast?_eq_getElem?]
 cases e:a.getLast? with
 | none=>simp at e; exact absurd e ha
 | some x=>exact ⟨x,rfl,hl x e⟩
theorem zq9 {d:List UInt8} (hd:Digs d) (hne:d≠[]) (hh:∀ x,d.head? = some x→x≠48):10 ^ (d.length - 1)≤val d:=by
 cases d with
 | nil=>exact absurd rfl hne
 | cons b d =>
  obtain ⟨h1,h2⟩:=zv.1 hd
  have h0:dv b≠0:=fun h0=>hh b rfl (zfg h1 (b:=48) rfl h0)
  rw [zai]
  have:=Nat.le_mul_of_pos_left (10 ^ d.length) (show 0<dv b by omega)
  simp
  omega
end Go.AM
set_option linter.unusedVariables false
set_option linter.unusedSimpArgs false
namespace Go.AM
abbrev FaultR:=Int×Int×Unit
abbrev ParseR:=DecD×FaultR×Unit
theorem zba (n:Nat) (s:List UInt8) (c:UInt8):F.zai n s [c]=some (decide (s.head? = some c)):=by
 unfold F.zai F.zao
 cases s with
 | nil=>rfl
 | cons b s =>
  have e:sub (b::s) (0:Int) ((([c]:List UInt8).length:Nat):Int)=some [b]:=zo (b::s) 0 1 (by omega) (by simp)
  rw [zd (by simp; omega),e,za,za]
  by_cases h:b=c
  · subst h; simp
  · simp [h]
def tw (s:List UInt8):List UInt8:=s.takeWhile isDig
theorem zbs (s:List UInt8):Digs (tw s):=List.all_takeWhile
theorem zll (s:List UInt8):s=tw s++s.drop (tw s).length:=by
 induction s with
 | nil=>rfl
 | cons b s ih =>
  unfold tw at ih ⊢
  by_cases h:isDig b=true
  · simp only [List.takeWhile_cons,h,if_true,List.length_cons,List.drop_succ_cons,List.cons_append]
    rw [← ih]
  · simp [List.takeWhile_cons,h]
theorem zf4 (s:List UInt8):(tw s).length≤s.length:=(List.takeWhile_sublist _).length_le
theorem zgk (n:Nat) (X:Type) (k0:Int→(List UInt8)→Int→Int→Int→Option X) (v3 b0 b1:Int) (s:List UInt8) (hs:s.length<4611686018427387904):∀ (r:List UInt8) (k m:Nat),s.drop k=r→k≤s.length→r.length<m →
 F.zaq.L2_dec_look_1 n k0 m v3 s b0 b1 (k:Int)=k0 v3 s b0 b1 ((k+(tw r).length:Nat):Int):=by
 intro r
 induction r with
 | nil =>
  intro k m hk hkl hm
  have:=zl hk
  obtain ⟨m,rfl⟩:∃ q,m=q+1:=⟨m - 1,by omega⟩
  show F.zaq.L2_dec_look_1.step n _ k0 _ _ _ _ _=_
  unfold F.zaq.L2_dec_look_1.step
  rw [ze (by omega)]
  rfl
 | cons x r ih =>
  intro k m hk hkl hm
  obtain ⟨h1,h2,h3⟩:=zk hk
  obtain ⟨m,rfl⟩:∃ q,m=q+1:=⟨m - 1,by omega⟩
  show F.zaq.L2_dec_look_1.step n (F.zaq.L2_dec_look_1 n k0 m) k0 _ _ _ _ _=_
  unfold F.zaq.L2_dec_look_1.step
  rw [zd (by omega),zm,h2,za,za]
  unfold tw at ih ⊢
  by_cases hd:isDig x=true
  · have hx:=zac.1 hd
    rw [zd (by omega),zd (by omega),zh (by omega),ih (k+1) m h3 (by omega) (by simp at hm; omega)]
    simp only [List.takeWhile_cons,hd,if_true,List.length_cons]
    congr 2
    omega
  · simp only [List.takeWhile_cons,hd,if_false]
    by_cases h48:48≤x.toNat
    · have:¬ x.toNat≤57:=fun h=>hd (zac.2 ⟨h48,h⟩)
      rw [zd (by omega),ze (by omega)]
      rfl
    · rw [ze (by omega)]
      rfl
def p0 (s:List UInt8):Nat:=if s.head? = some 45 then 1 else 0
def p1q (q:Nat) (s:List UInt8):Nat:=q+(tw (s.drop q)).length
def p3q (q:Nat) (s:List UInt8):Nat:=p1q q s+1+(tw (s.drop (p1q q s+1))).length
theorem zo5 (s:List UInt8):p0 s≤s.length:=by
 unfold p0
 cases s with
 | nil=>simp
 | cons b s=>split<;>simp
theorem zo6 {q:Nat} {s:List UInt8} (hq:q≤s.length):p1q q s≤s.length:=by
 have h2:=zf4 (s.drop q)
 simp at h2
 unfold p1q
 omega
theorem zn8 {s:List UInt8} {k:Nat} {x:UInt8} (h:(s.drop k).head? = some x):k<s.length:=by
 cases e:s.drop k with
 | nil=>rw [e] at h; simp at h
 | cons b r =>
  have:=congrArg List.length e
  simp at this
  omega
theorem zzk {q:Nat} {s:List UInt8} (h:(s.drop (p1q q s)).head? = some 46):p3q q s≤s.length:=by
 have h1:=zn8 h
 have h2:=zf4 (s.drop (p1q q s+1))
 simp at h2
 unfold p3q
 omega
def endR (right:Prop) [Decidable right] (at':Nat) (len:Nat):FaultR:=
 if right∧at'=len then (0,0,()) else if at'=len then (11,(at':Int),()) else (14,(at':Int),())
def lookQ (q:Nat) (s:List UInt8):FaultR:=
 if q<p1q q s∧(s.drop (p1q q s)).head? = some 46 then endR (p1q q s+1<p3q q s) (p3q q s) s.length else endR (q<p1q q s) (p1q q s) s.length
def lookR (s:List UInt8):FaultR:=lookQ (p0 s) s
theorem zra (a b:Nat) (at' len:Nat):(bif decide ((at':Int)>(a:Int)) then
 bif (at':Int)==(len:Int) then some (((0:Int),(0:Int),())) else bif (at':Int)==(len:Int) then some (((11:Int),(at':Int),())) else some (((14:Int),(at':Int),()))
 else bif (at':Int)==(len:Int) then some (((11:Int),(at':Int),())) else some (((14:Int),(at':Int),())))=some (endR (a<at') at' len):=by
 unfold endR
 by_cases h1:at'=len
 · have e:((at':Int)==(len:Int))=true:=by simp [h1]
   rw [e]
   by_cases h2:a<at'
   · rw [zd (by omega),if_pos ⟨h2,h1⟩]; rfl
   · rw [ze (by omega),if_neg (fun h=>h2 h.1),if_pos h1]; rfl
 · have e:((at':Int)==(len:Int))=false:=by
    have:¬ (at':Int)=(len:Int):=by omega
    simpa using this
   rw [e,if_neg (fun h=>h1 h.2),if_neg h1]
   simp only [cond_false]
   cases decide ((at':Int)>(a:Int))<;>rfl
theorem zjr (n : Nat) (s:List UInt8) (hs:s.length<4000000000000000000) (hn:s.length<n) (q:Nat) (hq:q≤s.length) :
 F.zaq.L2_dec_look_1 n
  (fun e4_3 e4_b0_0 e4_b1_0 e4_b1_1 e4_b2_0 =>
   bif decide (e4_b2_0>e4_3) then
    (sub e4_b0_0 e4_b2_0 (e4_b0_0.length:Int)).bind fun x5 =>
     (F.zai n x5 ([46])).bind fun y6 =>
      bif y6 then
       F.zaq.L2_dec_look_1 n
        (fun e7_3 e7_b0_0 e7_b1_0 e7_b1_1 e7_b2_0 =>
         bif decide (e7_b2_0>e7_3) then
          bif e7_b2_0==(e7_b0_0.length:Int) then
           some (((0:Int),(0:Int),()))
          else
          bif e7_b2_0==(e7_b0_0.length:Int) then
           some (((11:Int),e7_b2_0,()))
          else
           some (((14:Int),e7_b2_0,()))
         else
         bif e7_b2_0==(e7_b0_0.length:Int) then
          some (((11:Int),e7_b2_0,()))
         else
          some (((14:Int),e7_b2_0,()))) n (IntKind.wrap .i64 (e4_b2_0+(1:Int))) e4_b0_0 e4_b1_0 e4_b1_1 (IntKind.wrap .i64 (e4_b2_0+(1:Int)))
      else
      bif decide (e4_b2_0>e4_3) then
       bif e4_b2_0==(e4_b0_0.length:Int) then
        some (((0:Int),(0:Int),()))
       else
       bif e4_b2_0==(e4_b0_0.length:Int) then
        some (((11:Int),e4_b2_0,()))
       else
        some (((14:Int),e4_b2_0,()))
      else
      bif e4_b2_0==(e4_b0_0.length:Int) then
       some (((11:Int),e4_b2_0,()))
      else
       some (((14:Int),e4_b2_0,()))
   else
   bif decide (e4_b2_0>e4_3) then
    bif e4_b2_0==(e4_b0_0.length:Int) then
     some (((0:Int),(0:Int),()))
    else
    bif e4_b2_0==(e4_b0_0.length:Int) then
     some (((11:Int),e4_b2_0,()))
    else
     some (((14:Int),e4_b2_0,()))
   else
   bif e4_b2_0==(e4_b0_0.length:Int) then
    some (((11:Int),e4_b2_0,()))
   else
    some (((14:Int),e4_b2_0,()))) n (q:Int) s (0:Int) (0:Int) (q:Int)
 = some (lookQ q s):=by
 rw [zgk n _ _ _ _ _ s (by omega) (s.drop q) q n rfl hq (by simp; omega)]
 have hkl:p1q q s≤s.length:=zo6 hq
 show (bif decide (((p1q q s:Nat):Int)>(q:Int)) then _ else _)=_
 unfold lookQ
 have hk3:p3q q s=p1q q s+1+(tw (s.drop (p1q q s+1))).length:=rfl
 have hsh:q+(tw (s.drop q)).length=p1q q s:=rfl
 simp only [hsh]
 generalize p3q q s=k3 at hk3 ⊢
 clear hsh
 generalize p1q q s=k at hkl hk3 ⊢
 subst hk3
 have hE:=zra q 0 k s.length
 rw [hE]
 by_cases h1:q<k
 · rw [zd (by omega)]
   have hsub:sub s (k:Int) (s.length:Int)=some (s.drop k):=by
    have:=zo s k s.length hkl (Nat.le_refl _)
    rw [List.take_length] at this
    exact this
   rw [hsub,za,zba,za]
   by_cases h2:(s.drop k).head? = some 46
   · have hlt:k<s.length:=by
      cases e:s.drop k with
      | nil=>rw [e] at h2; simp at h2
      | cons b r =>
       have:=congrArg List.length e
       simp at this
       omega
     rw [decide_eq_true h2,cond_true,if_pos ⟨h1,h2⟩,zh (by omega),zgk n _ _ _ _ _ s (by omega) (s.drop (k+1)) (k+1) n rfl (by omega) (by simp; omega)]
     exact zra (k+1) 0 _ s.length
   · rw [decide_eq_false h2,cond_false,if_neg (fun h=>h2 h.2)]
 · rw [ze (by omega),if_neg (fun h=>h1 h.1)]
theorem zyk (n:Nat) (s:List UInt8) (hs:s.length<4000000000000000000) (hn:s.length<n):F.zaq n s=some (lookR s):=by
 unfold F.zaq
 rw [zba,za]
 by_cases h:s.head? = some 45
 · have hp:p0 s=1:=by unfold p0; rw [if_pos h]
   rw [decide_eq_true h,cond_true]
   have hq:1≤s.length:=by have:=zo5 s; omega
   have:=zjr n s hs hn 1 hq
   refine this.trans ?_
   unfold lookR
   rw [hp]
 · have hp:p0 s=0:=by unfold p0; rw [if_neg h]
   rw [decide_eq_false h,cond_false]
   have:=zjr n s hs hn 0 (by omega)
   refine this.trans ?_
   unfold lookR
   rw [hp]
end Go.AM
set_option linter.unusedVariables false
set_option linter.unusedSimpArgs false
namespace Go.AM
def outR (r:DecR):ParseR:=if r.2.1=0 then (r.1,(0,0,()),()) else ((false,0,0,()),(r.2.1,0,()),())
def badR (f:FaultR):ParseR:=((false,0,0,()),f,())
def aheadD (s:List UInt8):List UInt8:=tw (s.drop (p0 s))
def behindD (s:List UInt8):List UInt8:=if (s.drop (p1q (p0 s) s)).head? = some 46 then tw (s.drop (p1q (p0 s) s+1)) else []
def negD (s:List UInt8):Bool:=decide (s.head? = some 45)
def parseR (s:List UInt8):ParseR:=
 if (lookR s).1=0 then outR (valR (negD s) (aheadD s++behindD s) (-((behindD s).length:Int))) else badR (lookR s)
theorem zfj (neg:Bool) (d:List UInt8) (e:Int):(valR neg d e).2.1=0∨(valR neg d e).2.1=10∧(valR neg d e).1=(false,0,0,()):=by
 unfold valR zeroD normR
 by_cases h:val d=0
 · rw [if_pos h]; exact Or.inl rfl
 · rw [if_neg h]
   split
   · exact Or.inr ⟨rfl,rfl⟩
   · split
     · exact Or.inl rfl
     · exact Or.inr ⟨rfl,rfl⟩
theorem zjs {d d':List UInt8} (hd:Digs d) (hd':Digs d') (h:val d=val d') (neg:Bool) (e:Int):valR neg d e=valR neg d' e:=by
 by_cases h0:val d=0
 · unfold valR
   rw [if_pos h0,if_pos (h▸h0)]
 · obtain ⟨c0,z,h1,h2⟩:=zch (val d) (by omega)
   rw [zah hd h2 h1,zah hd' h2 (h▸h1)]
theorem zuu {d:List UInt8} (hd:Digs d) (h:two64≤val d) (ht:trz d=d) (neg:Bool) (e:Int):valR neg d e=((false,0,0,()),10,()):=by
 have h0:val d≠0:=by rw [zz] at h; omega
 have hc:=zg1 hd h0
 rw [ht] at hc
 rw [zah hd hc (z:=0) (by simp)]
 unfold normR
 split
 · rfl
 · rw [if_neg]
   have:=Nat.le_mul_of_pos_right (val d) (Nat.pow_pos (n:=(e+((0:Nat):Int) - 18).toNat) (show 0<10 by omega))
   omega
end Go.AM
set_option linter.unusedVariables false
set_option linter.unusedSimpArgs false
namespace Go.AM
theorem zrb (n:Nat) (X:Type) (k0:Bool→Int→Int→Int→Int→Int→Int→Bool→Int→Int→Option X) (s:List UInt8) (hs:s.length<4611686018427387904) (b:Bool) (x1 x2 x3 x4 x5 x6:Int) (neg:Bool) (E:Int):∀ (r:List UInt8) (k m:Nat),s.drop k=r→k≤s.length→r.length<m→Digs r→val (s.take k)<two64 →
 F.zah.L14 n k0 m s (s.length:Int) (k:Int) b x1 x2 x3 x4 x5 x6 neg (val (s.take k):Int) E=if val s<two64 then k0 b x1 x2 x3 x4 x5 x6 neg (val s) E else k0 b x1 x2 x3 x4 x5 x6 neg 1 (-19):=by
 intro r
 induction r with
 | nil =>
  intro k m hk hkl hm hd hv
  have hk:=zl hk
  obtain ⟨m,rfl⟩:∃ q,m=q+1:=⟨m - 1,by omega⟩
  show F.zah.L14.step n _ k0 _ _ _ _ _ _ _ _ _ _ _ _ _=_
  unfold F.zah.L14.step
  rw [List.take_of_length_le hk] at hv ⊢
  rw [ze (by omega),if_pos hv]
 | cons x r ih =>
  intro k m hk hkl hm hd hv
  obtain ⟨h1,h2,h3⟩:=zk hk
  obtain ⟨d1,d2⟩:=zv.1 hd
  have hx:=zac.1 d1
  obtain ⟨m,rfl⟩:∃ q,m=q+1:=⟨m - 1,by omega⟩
  show F.zah.L14.step n (F.zah.L14 n k0 m) k0 _ _ _ _ _ _ _ _ _ _ _ _ _=_
  unfold F.zah.L14.step
  have htk:s.take (k+1)=s.take k++[x]:=by rw [List.take_add_one,h2]; rfl
  have hvk:val (s.take (k+1))=val (s.take k)*10+dv x:=by rw [htk,zb5]
  have hsv:val (s.take (k+1))≤val s:=by
   have e:s=s.take (k+1)++s.drop (k+1):=(List.take_append_drop _ _).symm
   have h5:val s=val (s.take (k+1))*10 ^ (s.drop (k+1)).length+val (s.drop (k+1)):=by
    conv=>lhs; rw [e]
    rw [zbk]
   have:=Nat.le_mul_of_pos_right (val (s.take (k+1))) (Nat.pow_pos (n:=(s.drop (k+1)).length) (show 0<10 by omega))
   omega
  have hdl:=zf1 d1
  have hdx:IntKind.wrap .u64 (IntKind.wrap .u8 ((x.toNat:Int) - 48))=(dv x:Int):=by
   have h8:IntKind.wrap .u8 ((x.toNat:Int) - 48)=(x.toNat:Int) - 48:=IntWalk.u8_in _ (by omega)
   rw [h8,IntWalk.u64_in _ (by omega)]; unfold dv; omega
  rw [zd (by omega),zm,h2,za,hdx,zlj n _ _ hv (by rw [zz]; omega),za,← hvk,zh (by omega)]
  by_cases hf:val (s.take (k+1))<two64
  · simp only [hf,decide_true,Bool.not_true,cond_false,Nat.mod_eq_of_lt hf]
    exact ih (k+1) m h3 (by omega) (by simp at hm; omega) d2 hf
  · simp only [hf,decide_false,Bool.not_false,cond_true]
    rw [if_neg (by omega)]
theorem zj4 (n:Nat) (s:List UInt8):F.zaj n s [45]=some (s.drop (p0 s),negD s,()):=by
 unfold F.zaj F.za7
 have hp:F.zao n s [45]=some (decide (s.head? = some 45)):=by
  have:=zba n s 45
  unfold F.zai at this
  cases e:F.zao n s [45] with
  | none=>rw [e] at this; cases this
  | some b=>rw [e] at this; exact this
 rw [hp,za]
 unfold p0 negD
 by_cases h:s.head? = some 45
 · have hl:1≤s.length:=by cases s with | nil=>simp at h | cons=>simp
   have hsub:sub s ((([45]:List UInt8).length:Nat):Int) (s.length:Int)=some (s.drop 1):=by
    have:=zo s 1 s.length hl (Nat.le_refl _)
    rw [List.take_length] at this
    exact this
   rw [decide_eq_true h,Bool.not_true,cond_false,hsub,if_pos h]
   rfl
 · rw [decide_eq_false h,Bool.not_false,cond_true,if_neg h]
   rfl
theorem zna {a t:List UInt8} (ha:Digs a):Lib.indexByte (a++46::t) 46=(a.length:Int):=by
 induction a with
 | nil=>simp [Lib.indexByte]
 | cons b a ih =>
  obtain ⟨h1,h2⟩:=zv.1 ha
  have hb:¬ b=46:=fun h=>by subst h; simp [isDig] at h1
  have:=ih h2
  simp only [List.cons_append,Lib.indexByte,beq_iff_eq,hb,if_false,this]
  have hne:¬ (a.length:Int) = -1:=by omega
  simp [hne]
theorem zo7 {a:List UInt8} (ha:Digs a):Lib.indexByte a 46 = -1:=by
 induction a with
 | nil=>rfl
 | cons b a ih =>
  obtain ⟨h1,h2⟩:=zv.1 ha
  have hb:¬ b=46:=fun h=>by subst h; simp [isDig] at h1
  simp [Lib.indexByte,hb,ih h2]
theorem zn9 {s:List UInt8} (h:(lookR s).1=0):lookR s=(0,0,())∧aheadD s≠[] ∧
 ((s.drop (p0 s)=aheadD s∧behindD s=[])∨(s.drop (p0 s)=aheadD s++46::behindD s∧behindD s≠[])):=by
 unfold lookR lookQ at h ⊢
 have split:=zll (s.drop (p0 s))
 rw [List.drop_drop] at split
 have hle:=zo6 (zo5 s)
 by_cases hp:p0 s<p1q (p0 s) s∧(s.drop (p1q (p0 s) s)).head? = some 46
 · rw [if_pos hp] at h ⊢
   unfold endR at h ⊢
   by_cases h3:p1q (p0 s) s+1<p3q (p0 s) s∧p3q (p0 s) s=s.length
   · rw [if_pos h3]
     refine ⟨rfl,?_,Or.inr ?_⟩
     · intro hh
       have:(tw (s.drop (p0 s))).length=0:=by unfold aheadD at hh; rw [hh]; rfl
       have:=hp.1
       unfold p1q at this
       omega
     · have hb:behindD s=tw (s.drop (p1q (p0 s) s+1)):=by unfold behindD; rw [if_pos hp.2]
       have h2:=zll (s.drop (p1q (p0 s) s+1))
       rw [List.drop_drop] at h2
       have h4:s.drop (p1q (p0 s) s+1+(tw (s.drop (p1q (p0 s) s+1))).length)=[]:=List.drop_eq_nil_of_le (by
        have h5:=h3.2
        unfold p3q at h5
        omega)
       rw [h4,List.append_nil] at h2
       have h5:s.drop (p1q (p0 s) s)=46::s.drop (p1q (p0 s) s+1):=by
        cases e:s.drop (p1q (p0 s) s) with
        | nil=>rw [e] at hp; simp at hp
        | cons c r =>
         rw [e] at hp
         have hc:c=46:=by simpa using hp.2
         subst hc
         obtain ⟨_,_,g3⟩:=zk e
         rw [g3]
       refine ⟨?_,?_⟩
       · rw [split]
         have:s.drop (p0 s+(tw (s.drop (p0 s))).length)=s.drop (p1q (p0 s) s):=rfl
         rw [this,h5,hb,← h2]
         rfl
       · rw [hb]
         intro hh
         have h6:=h3.1
         unfold p3q at h6
         rw [hh] at h6
         simp at h6
   · rw [if_neg h3] at h
     split at h<;>cases h
 · rw [if_neg hp] at h ⊢
   unfold endR at h ⊢
   by_cases h3:p0 s<p1q (p0 s) s∧p1q (p0 s) s=s.length
   · rw [if_pos h3]
     have hd:s.drop (p1q (p0 s) s)=[]:=List.drop_eq_nil_of_le (by omega)
     refine ⟨rfl,?_,Or.inl ⟨?_,?_⟩⟩
     · intro hh
       have:(tw (s.drop (p0 s))).length=0:=by unfold aheadD at hh; rw [hh]; rfl
       have:=h3.1
       unfold p1q at this
       omega
     · have:s.drop (p0 s+(tw (s.drop (p0 s))).length)=s.drop (p1q (p0 s) s):=rfl
       rw [this,hd,List.append_nil] at split
       exact split
     · unfold behindD
       rw [hd]
       simp
   · rw [if_neg h3] at h
     split at h<;>cases h
theorem zgl (s:List UInt8):Digs (behindD s):=by
 unfold behindD
 split
 · exact zbs _
 · rfl
theorem zrc (n:Nat) {s:List UInt8} (hs:s.length≤10000) (h:(lookR s).1=0):∃ f,F.zap n (s.drop (p0 s)) [46]=some (aheadD s,behindD s,f,()):=by
 obtain ⟨_,_,h3⟩:=zn9 h
 unfold F.zap F.zbp O.index1
 rcases h3 with ⟨a,b⟩ | ⟨a,b⟩
 · have hi:Lib.indexByte (aheadD s) 46 = -1:=zo7 (zbs _)
   rw [a,b]
   simp only [za]
   rw [hi]
   exact ⟨false,rfl⟩
 · have hl:(aheadD s++46::behindD s).length≤10000:=by rw [← a]; simp; omega
   have hl2:(aheadD s).length+((behindD s).length+1)≤10000:=by simpa using hl
   have hi:Lib.indexByte (aheadD s++46::behindD s) 46=((aheadD s).length:Int):=zna (zbs _)
   rw [a]
   simp only [za]
   rw [hi]
   have s1:sub (aheadD s++46::behindD s) 0 ((aheadD s).length:Int)=some (aheadD s):=by
    have:=zo (aheadD s++46::behindD s) 0 (aheadD s).length (by omega) (by simp)
    rw [List.drop_zero,List.take_left'] at this
    · exact this
    · rfl
   have hdr:(aheadD s++46::behindD s).drop ((aheadD s).length+1)=behindD s:=by
    rw [List.drop_append,List.drop_eq_nil_of_le (by omega),List.nil_append,show (aheadD s).length+1 - (aheadD s).length=1 from by omega]
    rfl
   have s2:sub (aheadD s++46::behindD s) (((aheadD s).length+1:Nat):Int) ((aheadD s++46::behindD s).length:Int)=some (behindD s):=by
    have:=zo (aheadD s++46::behindD s) ((aheadD s).length+1) (aheadD s++46::behindD s).length (by simp) (Nat.le_refl _)
    rw [List.take_length,hdr] at this
    exact this
   have hw:IntKind.wrap .i64 (((aheadD s).length:Int)+((([46]:List UInt8).length:Nat):Int))=(((aheadD s).length+1:Nat):Int):=zh (by omega)
   rw [zd (by omega),s1,za,hw,s2]
   exact ⟨true,rfl⟩
theorem zlm (n:Nat) {s:List UInt8} (h:s.length≤10000):O.trimR n s [48]=some (trz s):=by
 unfold O.trimR
 have hb:(Nat.blt (48:UInt8).toNat 128&&Nat.ble s.length big47)=true:=by
  rw [Bool.and_eq_true,Nat.ble_eq]
  exact ⟨rfl,by unfold big47; omega⟩
 simp only [hb,cond_true,zjo]
theorem zuv (n:Nat) {s:List UInt8} (h:s.length≤10000):O.trimL n s [48]=some (lz s):=by
 unfold O.trimL
 have hb:(Nat.blt (48:UInt8).toNat 128&&Nat.ble s.length big47)=true:=by
  rw [Bool.and_eq_true,Nat.ble_eq]
  exact ⟨rfl,by unfold big47; omega⟩
 simp only [hb,cond_true]
 rfl
theorem zyl (d:List UInt8):trz (trz d)=trz d:=zli (fun x hx=>zb7 hx)
theorem zym (neg:Bool) {d:List UInt8} (hd:Digs d) (e:Int):valR neg (lz d) e=valR neg d e:=zjs (zf3 hd) hd (zfi d) neg e
theorem zg2 (n : Nat) (hn : 200000≤n) (neg:Bool) (d:List UInt8) (hd:Digs d) (hl:d.length≤10000) (E:Int) (hE : -100000≤E∧E≤100000) (ht:trz d=d) (x1 x2 x3 x4 x5 x6:Int) :
 F.zah.L14 n
  (fun e9_b0_0 e9_b0_1 e9_b0_2 e9_b1_0 e9_b1_1 e9_b2_0 e9_b2_1 e9_b3_0 e9_b3_1 e9_b3_2 =>
   (F.zf n (e9_b3_0,e9_b3_1,e9_b3_2,())).bind fun y10 =>
    bif !(y10.2.1==(0:Int)) then
     some (((false,(0:Int),(0:Int),()),(y10.2.1,(0:Int),()),()))
    else
     some (((y10.1.1,y10.1.2.1,y10.1.2.2.1,()),((0:Int),(0:Int),()),()))) n d (d.length:Int) (0:Int) false x1 x2 x3 x4 x5 x6 neg (0:Int) E
 = some (outR (valR neg d E)):=by
 refine (zrb n _ _ d (by omega) false x1 x2 x3 x4 x5 x6 neg E d 0 n rfl (by omega) (by omega) hd (by rw [List.take_zero,zcw,zz]; omega)).trans ?_
 have out:∀ r:DecR,(r.2.1=0∨r.2.1=10∧r.1=(false,0,0,()))→((some r).bind fun y10 =>
  bif !(y10.2.1==(0:Int)) then
   some (((false,(0:Int),(0:Int),()),(y10.2.1,(0:Int),()),()))
  else
   some (((y10.1.1,y10.1.2.1,y10.1.2.2.1,()),((0:Int),(0:Int),()),())))=some (outR r):=by
  intro r hr
  rw [za]
  unfold outR
  rcases hr with h | ⟨h1,h2⟩
  · rw [h,if_pos rfl]; rfl
  · rw [h1,if_neg (by decide)]; rfl
 by_cases hv:val d<two64
 · rw [if_pos hv,zdg n (by omega) neg _ hv E (by omega),zjs (zax _) hd (zbx _)]
   exact out _ (zfj neg d E)
 · have h19:=zdg n (by omega) neg 1 (by decide) (-19) (by omega)
   have hb:=zuu hd (by omega) ht neg E
   rw [if_neg hv,show (1:Int)=((1:Nat):Int) from rfl,h19,hb]
   have e1:valR neg (Lib.decDigits 1) (-19)=((false,0,0,()),10,()):=by
    rw [zah (zax 1) (c0:=1) (z:=0) (by decide) (by rw [zbx])]
    unfold normR
    rw [if_pos (by omega)]
   rw [e1]
   exact out _ (Or.inr ⟨rfl,rfl⟩)
theorem zdo (n:Nat) (hn:200000≤n) (s:List UInt8) (hs:s.length≤10000):F.zah n s=some (parseR s):=by
 unfold F.zah
 rw [zyk n s (by omega) (by omega),za]
 by_cases h:(lookR s).1=0
 · obtain ⟨h1,h2,h3⟩:=zn9 h
   obtain ⟨f,hcut⟩:=zrc n hs h
   have e0:(!((0:Int)==0&&(0:Int)==0))=false:=rfl
   rw [h1]
   simp only [e0,cond_false]
   rw [zj4,za]
   simp only [hcut,za]
   have ha:Digs (aheadD s):=zbs _
   have hb:=zgl s
   have hlen:(aheadD s).length+(behindD s).length≤10000:=by
    have hd:(s.drop (p0 s)).length≤10000:=by simp; omega
    rcases h3 with ⟨a,b⟩ | ⟨a,b⟩
    · rw [b]; rw [a] at hd; simpa using hd
    · rw [a] at hd; simp at hd; omega
   unfold parseR
   rw [if_pos h]
   generalize aheadD s=a at *
   generalize behindD s=b at *
   have htb:=zc2 b
   rw [zlm n (by omega),za,zd (by rw [zj]; omega),zuv n (by simp; omega),za]
   have hab:Digs (a++trz b):=zu.2 ⟨ha,zc3 hb⟩
   have hall:=zv7 (a++trz b)
   have hallL:(lz (a++trz b)).length≤a.length+(trz b).length:=by simpa using hall
   have hts:=zc2 (lz (a++trz b))
   rw [zlm n (by omega),za]
   have hval:valR (negD s) (lz (a++trz b)) (-((trz b).length:Int))=valR (negD s) (a++b) (-(b.length:Int)):=by
    rw [zym _ hab]
    have hpad:=zbr b
    conv=>rhs; rw [hpad]
    rw [← List.append_assoc,zc4 _ hab]
    congr 1
    simp
    omega
   have hD:=zf3 hab
   have hw:IntKind.wrap .i64 (0 - ((trz b).length:Int)) = -((trz b).length:Int):=by rw [zi (by omega)]; omega
   rw [hw]
   by_cases hz:(trz b).length=0
   · have ez:(-((trz b).length:Int)==0)=true:=by simp [hz]
     rw [ez,cond_true]
     by_cases hsh:(trz (lz (a++trz b))).length<(lz (a++trz b)).length
     · have hw2:IntKind.wrap .i64 (((lz (a++trz b)).length:Int) - ((trz (lz (a++trz b))).length:Int))=(((lz (a++trz b)).length - (trz (lz (a++trz b))).length:Nat):Int):=by rw [zi (by omega)]; omega
       rw [zd (by omega),hw2]
       have:=zg2 n hn (negD s) _ (zc3 hD) (by omega) (((lz (a++trz b)).length - (trz (lz (a++trz b))).length:Nat):Int) (by omega) (zyl _) 0 0 0 0 0 0
       refine this.trans ?_
       congr 2
       rw [← hval,hz]
       have hpad:=zbr (lz (a++trz b))
       conv=>rhs; rw [hpad]
       rw [zc4 _ (zc3 hD)]
       congr 1
       omega
     · have hq:trz (lz (a++trz b))=lz (a++trz b):=by
        have hpad:=zbr (lz (a++trz b))
        rw [show (lz (a++trz b)).length - (trz (lz (a++trz b))).length=0 from by omega,List.replicate_zero,List.append_nil] at hpad
        exact hpad.symm
       rw [ze (by omega)]
       have:=zg2 n hn (negD s) _ hD (by omega) (-((trz b).length:Int)) (by omega) hq 0 0 0 0 0 0
       refine this.trans ?_
       rw [hval]
   · have ez:(-((trz b).length:Int)==0)=false:=by
      have:¬ (-((trz b).length:Int))=0:=by omega
      simpa using this
     rw [ez,cond_false]
     have hq:trz (lz (a++trz b))=lz (a++trz b):=by
      refine zli fun x hx => ?_
      have hrep:=zlk (a++trz b)
      have hlast:(a++trz b).getLast? = some x:=by
       rw [hrep,List.getLast?_append,hx]; rfl
      rw [List.getLast?_append] at hlast
      cases e:(trz b).getLast? with
      | none=>simp at e; rw [e] at hz; simp at hz
      | some y =>
       rw [e] at hlast
       have hy:y=x:=by simpa using hlast
       rw [← hy]
       exact zb7 e
     have:=zg2 n hn (negD s) _ hD (by omega) (-((trz b).length:Int)) (by omega) hq 0 0 0 0 0 0
     refine this.trans ?_
     rw [hval]
 · have e:((lookR s).1==0)=false:=by simpa using h
   unfold parseR
   rw [if_neg h,e]
   rfl
end Go.AM
set_option linter.unusedVariables false
set_option linter.unusedSimpArgs false
namespace Go.AM
def checkR (neg:Bool) (c:Nat) (e:Int):Int:=
 if c≠0∧(e < -18∨e>18) then 10 else if (valR neg (Lib.decDigits c) e).2.1=0∧(valR neg (Lib.decDigits c) e).1=(neg,(c:Int),e,()) then 0 else 21
theorem zuw (a b:DecD):((a.1==b.1)&&((a.2.1==b.2.1)&&(a.2.2.1==b.2.2.1)))=decide (a=b):=by
 obtain ⟨a1,a2,a3,_⟩:=a
 obtain ⟨b1,b2,b3,_⟩:=b
 by_cases h:(((a1,a2,a3,()):DecD)=(b1,b2,b3,()))
 · have:a1=b1∧a2=b2∧a3=b3:=by simpa using h
   rw [decide_eq_true h]
   simp [this]
 · rw [decide_eq_false h]
   have:¬ (a1=b1∧a2=b2∧a3=b3):=fun hh=>h (by simp [hh])
   simp only [Bool.and_eq_false_iff,beq_eq_false_iff_ne]
   by_cases g1:a1=b1
   · by_cases g2:a2=b2
     · exact Or.inr (Or.inr fun g3=>this ⟨g1,g2,g3⟩)
     · exact Or.inr (Or.inl g2)
   · exact Or.inl g1
theorem zhx (neg:Bool) (c:Nat) (e:Int) (r:DecR) (hr:r=valR neg (Lib.decDigits c) e) :
 (bif !(r.2.1==(0:Int)) then some ((21:Int)) else bif !((r.1.1==neg)&&((r.1.2.1==(c:Int))&&(r.1.2.2.1==e))) then some ((21:Int)) else some ((0:Int)))
  = some (if (valR neg (Lib.decDigits c) e).2.1=0∧(valR neg (Lib.decDigits c) e).1=(neg,(c:Int),e,()) then 0 else 21):=by
 subst hr
 have hb:=zuw (valR neg (Lib.decDigits c) e).1 (neg,(c:Int),e,())
 simp only at hb
 rw [hb]
 by_cases h1:(valR neg (Lib.decDigits c) e).2.1=0
 · have e1:((valR neg (Lib.decDigits c) e).2.1==0)=true:=by simp [h1]
   rw [e1]
   by_cases h2:(valR neg (Lib.decDigits c) e).1=(neg,(c:Int),e,())
   · rw [decide_eq_true h2,if_pos ⟨h1,h2⟩]; rfl
   · rw [decide_eq_false h2,if_neg (fun h=>h2 h.2)]; rfl
 · have e1:((valR neg (Lib.decDigits c) e).2.1==0)=false:=by simpa using h1
   rw [e1,if_neg (fun h=>h1 h.1)]; rfl
theorem zln (n:Nat) (hn:100≤n) (neg:Bool) (c:Nat) (hc:c<two64) (e:Int) (he : -9223372036854775808≤e∧e≤9223372036854775807):F.zb3 n (neg,(c:Int),e,())=some (checkR neg c e):=by
 unfold F.zb3 checkR
 simp only [zdg n hn neg c hc e he,za]
 have T:=zhx neg c e _ rfl
 by_cases h0:c=0
 · have e0:(((c:Int))==0)=true:=by simp [h0]
   rw [e0,if_neg (fun h=>h.1 h0)]
   exact T
 · have e0:(((c:Int))==0)=false:=by simpa using h0
   rw [e0]
   simp only [Bool.not_false,cond_true]
   by_cases h1:e < -18
   · rw [zd h1,if_pos ⟨h0,Or.inl h1⟩]
   · rw [ze h1]
     by_cases h2:e>18
     · rw [zd h2,if_pos ⟨h0,Or.inr h2⟩]
     · rw [ze h2,if_neg (by omega)]
       exact T
theorem za3 {c:Nat} (hc:c<two64):(Lib.decDigits c).length≤20:=by rw [zcg]; exact Lib.nDigits_le20 c hc
theorem zby {neg:Bool} {c:Nat} {e:Int} (h:checkR neg c e=0):valR neg (Lib.decDigits c) e=((neg,(c:Int),e,()),0,()) ∧ -18≤e∧e≤18:=by
 unfold checkR at h
 by_cases h1:c≠0∧(e < -18∨e>18)
 · rw [if_pos h1] at h; cases h
 rw [if_neg h1] at h
 by_cases h2:(valR neg (Lib.decDigits c) e).2.1=0∧(valR neg (Lib.decDigits c) e).1=(neg,(c:Int),e,())
 · have h3:valR neg (Lib.decDigits c) e=((neg,(c:Int),e,()),0,()):=by
    obtain ⟨a,b⟩:=h2
    generalize valR neg (Lib.decDigits c) e=r at a b ⊢
    obtain ⟨r1,r2,_⟩:=r
    simp only at a b
    rw [a,b]
   refine ⟨h3,?_⟩
   by_cases h0:c=0
   · subst h0
     unfold valR at h3
     rw [if_pos (zbx 0)] at h3
     have:(0:Int)=e:=congrArg (fun r:DecR=>r.1.2.2.1) h3
     omega
   · omega
 · rw [if_neg h2] at h; cases h
def sgn (neg:Bool):List UInt8:=if neg then [45] else []
def wideW (c:Nat) (e:Int):List UInt8:=List.replicate (1 - e - (Lib.decDigits c).length).toNat 48++Lib.decDigits c
def textD (neg:Bool) (c:Nat) (e:Int):List UInt8:=
 if 0≤e then sgn neg++(Lib.decDigits c++List.replicate e.toNat 48)
 else sgn neg++((wideW c e).take ((wideW c e).length - e.natAbs)++[46]++(wideW c e).drop ((wideW c e).length - e.natAbs))
theorem znb (k:Nat):Lib.repeatL [48] k=List.replicate k 48:=by
 induction k with
 | zero=>rfl
 | succ k ih=>rw [Lib.repeatL,ih]; rfl
theorem zjt (n:Nat) {k:Int} (h:0≤k∧k≤100000):O.repeat' n [48] k=some (List.replicate k.toNat 48):=by
 unfold O.repeat'
 have hb:(decide (0≤k)&&Nat.ble k.toNat big47&&Nat.ble (([48]:List UInt8).length*k.toNat) big47)=true:=by
  rw [Bool.and_eq_true,Bool.and_eq_true,Nat.ble_eq,Nat.ble_eq]
  unfold big47
  simp only [List.length_cons,List.length_nil]
  refine ⟨⟨by simp; omega,by omega⟩,by omega⟩
 rw [hb,cond_true,znb]
theorem zfk (c:Nat) (hc:c<two64) (e:Int) (he : -18≤e∧e<0):e.natAbs<(wideW c e).length∧(wideW c e).length≤40∧Digs (wideW c e):=by
 have:=za3 hc
 unfold wideW
 refine ⟨?_,?_,zu.2 ⟨zbg _,zax c⟩⟩
 · simp; omega
 · simp; omega
theorem zux (n:Nat) (hn:200000≤n) (neg:Bool) (c:Nat) (hc:c<two64) (e:Int) (he : -9223372036854775808≤e∧e≤9223372036854775807):F.zby n (neg,(c:Int),e,())=some (if checkR neg c e=0 then (textD neg c e,0,()) else ([],checkR neg c e,())):=by
 unfold F.zby
 simp only [zln n (by omega) neg c hc e he,za]
 by_cases h:checkR neg c e=0
 · obtain ⟨h1,h2,h3⟩:=zby h
   have hl:=za3 hc
   rw [h,if_pos rfl]
   have e0:(!((0:Int)==0))=false:=rfl
   rw [e0,cond_false]
   have hf:O.futoa n (c:Int) 10=some (Lib.decDigits c):=by
    unfold O.futoa
    have:(decide ((0:Int)≤(c:Int))&&decide ((c:Int)<18446744073709551616)&&decide ((10:Int)=10))=true:=by
     rw [zz] at hc
     simp; omega
    rw [this]; rfl
   rw [hf,za]
   unfold textD
   by_cases hE:0≤e
   · rw [zd hE,if_pos hE,zjt n (by omega),za,zd (by rw [zj]; simp; omega)]
     cases neg
     · rfl
     · rw [cond_true,zd (by rw [zj]; simp; omega)]
       rfl
   · obtain ⟨w1,w2,w3⟩:=zfk c hc e (by omega)
     have hmax:(if (IntKind.wrap .i64 ((IntKind.wrap .i64 ((1:Int) - e)) - ((Lib.decDigits c).length:Int)))>(0:Int) then (IntKind.wrap .i64 ((IntKind.wrap .i64 ((1:Int) - e)) - ((Lib.decDigits c).length:Int))) else (0:Int))=(((1 - e - (Lib.decDigits c).length).toNat:Nat):Int):=by
      rw [zi (x:=(1:Int) - e) (by omega),zi (by omega)]
      split<;>omega
     have hwl:(List.replicate (1 - e - (Lib.decDigits c).length).toNat (48:UInt8)).length+(Lib.decDigits c).length=(wideW c e).length:=by unfold wideW; simp
     rw [ze (by omega),if_neg hE,hmax,zjt n (by omega),za,Int.toNat_natCast,zd (by rw [zj]; omega)]
     have hww:List.replicate (1 - e - (Lib.decDigits c).length).toNat (48:UInt8)++Lib.decDigits c=wideW c e:=rfl
     rw [hww]
     generalize wideW c e=w at w1 w2 w3
     have hat:IntKind.wrap .i64 ((w.length:Int)+e)=((w.length - e.natAbs:Nat):Int):=by rw [zi (by omega)]; omega
     rw [hat]
     have s1:sub w 0 ((w.length - e.natAbs:Nat):Int)=some (w.take (w.length - e.natAbs)):=by
      have:=zo w 0 (w.length - e.natAbs) (by omega) (by omega)
      rw [List.drop_zero] at this
      exact this
     have s2:sub w ((w.length - e.natAbs:Nat):Int) (w.length:Int)=some (w.drop (w.length - e.natAbs)):=by
      have:=zo w (w.length - e.natAbs) w.length (by omega) (Nat.le_refl _)
      rw [List.take_length] at this
      exact this
     rw [s1,za,zd (by rw [zj]; simp; omega),s2,za,zd (by rw [zj]; simp; omega)]
     cases neg
     · rfl
     · rw [cond_true,zd (by rw [zj]; simp; omega)]
       rfl
 · have e0:(checkR neg c e==0)=false:=by simpa using h
   rw [e0,if_neg h]
   rfl
theorem zuy (neg:Bool) (c:Nat) (hc:c<two64) (e:Int) (he : -18≤e∧e≤18):(textD neg c e).length≤39∧(0≤e∨e<0):=by
 have hl:=za3 hc
 have hs:(sgn neg).length≤1:=by cases neg<;>decide
 refine ⟨?_,by omega⟩
 unfold textD
 by_cases h:0≤e
 · rw [if_pos h]; simp; omega
 · rw [if_neg h]
   obtain ⟨w1,w2,w3⟩:=zfk c hc e (by omega)
   have:(wideW c e).length≤20∨(wideW c e).length=(1 - e).toNat:=by unfold wideW; simp; omega
   simp
   omega
end Go.AM
set_option linter.unusedVariables false
set_option linter.unusedSimpArgs false
namespace Go.AM
theorem zlo {α:Type} (b:Bool) (u v:α):(bif b then some u else some v)=some (bif b then u else v):=by cases b<;>rfl
def btw (x lo hi:Int):Bool:=decide (lo≤x)&&decide (x≤hi)
def wordI (x:Int):Bool:=btw x 65 90||(btw x 97 122||(x==95||(x==46||(x==45||btw x 48 57))))
def cls (c:Int) (b:UInt8):Bool:=
 bif c==3 then btw b.toNat 33 126&&(!((b.toNat:Int)==44) && !((b.toNat:Int)==124))
 else bif c==2 then ((b.toNat:Int)==47)||wordI b.toNat
 else bif c==1 then wordI b.toNat
 else (c==4)&&btw b.toNat 48 57
def may (c:Int):Bool:=decide (1≤c)&&decide (c≤4)
theorem cls4 (b:UInt8):cls 4 b=isDig b:=by
 unfold cls isDig btw
 simp
 congr 1<;>simp only [decide_eq_decide]<;>omega
theorem zyn (n:Nat) (c:Int):F.zcp n c=some (may c):=by
 unfold F.zcp may
 by_cases h:1≤c
 · rw [zd (by omega)]; simp [h]
 · rw [ze (by omega)]; simp [h]
theorem zo8 (n:Nat) (x lo hi:Int):F.zav n x lo hi=some (btw x lo hi):=by
 unfold F.zav btw
 by_cases h:lo≤x
 · rw [zd (by omega)]; simp [h]
 · rw [ze (by omega)]; simp [h]
theorem zzl (n:Nat) (c:Int) (b:UInt8):F.zcs n c (b.toNat)=some (cls c b):=by
 unfold F.zcs cls wordI
 simp only [zo8,za,zlo]
 congr 1
 cases c==3<;>cases c==2<;>cases c==1<;>cases c==4<;>generalize hx:(b.toNat:Int)=x<;>clear hx <;>
  (cases btw x 33 126<;>cases x==44<;>cases btw x 65 90<;>cases btw x 97 122<;>cases x==95<;>cases x==46<;>cases x==45<;>cases x==47<;>rfl)
def badK (p:UInt8→Bool):Nat→List UInt8→Int
 | _,[] => -1
 | k,b::l=>if p b then badK p (k+1) l else (k:Int)
theorem zcx (p:UInt8→Bool) (k:Nat) (l:List UInt8):0≤badK p k l↔¬ l.all p=true:=by
 induction l generalizing k with
 | nil=>simp [badK]
 | cons b l ih =>
  unfold badK
  by_cases h:p b=true
  · rw [if_pos h,ih]; simp [h]
  · rw [if_neg h]; simp [h]
theorem zlp (p:UInt8→Bool) (k:Nat) (l:List UInt8) (h:l.all p=true):badK p k l = -1:=by
 induction l generalizing k with
 | nil=>rfl
 | cons b l ih =>
  simp only [List.all_cons,Bool.and_eq_true] at h
  unfold badK
  rw [if_pos h.1,ih _ h.2]
theorem zoa (p:UInt8→Bool) (k:Nat) (l:List UInt8):badK p k l<k+l.length∨badK p k l = -1:=by
 induction l generalizing k with
 | nil=>exact Or.inr rfl
 | cons b l ih =>
  unfold badK
  by_cases hb:p b=true
  · rw [if_pos hb]; have:=ih (k+1); simp; omega
  · rw [if_neg hb]; simp; omega
theorem zlq (n:Nat) (X:Type) (k0:Unit→Option X) (kr:Int→Int→Option X) (c:Int) (s:List UInt8) (hs:s.length<4611686018427387904):∀ (r:List UInt8) (k m:Nat),s.drop k=r→r.length<m →
 F.zaw.L4 n k0 kr m c s (s.length:Int) (k:Int)=if 0≤badK (cls c) k r then kr (badK (cls c) k r) 0 else k0 ():=by
 intro r
 induction r with
 | nil =>
  intro k m hk hm
  have:=zl hk
  cases m with
  | zero=>simp at hm
  | succ m =>
   show F.zaw.L4.step n _ k0 kr c s _ k=_
   unfold F.zaw.L4.step
   rw [ze (by omega)]
   rfl
 | cons x r ih =>
  intro k m hk hm
  obtain ⟨h1,h2,h3⟩:=zk hk
  cases m with
  | zero=>simp at hm
  | succ m =>
   show F.zaw.L4.step n (F.zaw.L4 n k0 kr m) k0 kr c s _ k=_
   unfold F.zaw.L4.step
   rw [zd (by omega),zm,h2,za,zzl,za]
   unfold badK
   by_cases hx:cls c x=true
   · rw [hx,if_pos rfl,zh (by omega),ih (k+1) m h3 (by simp at hm; omega)]
     rfl
   · have hx:cls c x=false:=by simpa using hx
     rw [hx]
     have:¬ (false=true):=by simp
     rw [if_neg this,if_pos (by omega)]
     rfl
theorem zyo (n:Nat) (c:Int) (s:List UInt8) (hs:s.length<4611686018427387904) (hn:s.length<n):F.zaw n c s=some (bif may c then (badK (cls c) 0 s,0,()) else (0,1,())):=by
 unfold F.zaw
 rw [zyn,za]
 cases hm:may c
 · rfl
 · simp only [Bool.not_true,cond_false]
   refine (zlq n _ _ _ c s hs s 0 n rfl hn).trans ?_
   by_cases h:0≤badK (cls c) 0 s
   · rw [if_pos h]; rfl
   · rw [if_neg h]
     have:s.all (cls c)=true:=Classical.byContradiction fun hh=>h ((zcx _ _ _).2 hh)
     rw [zlp _ _ _ this]; rfl
def textF (c:Int) (s:List UInt8) (lo hi:Int):Int×Int×Unit:=
 if may c=false∨lo<0∨hi<lo then (1,0,()) else if (s.length:Int)<lo then (13,(s.length:Int),()) else if (s.length:Int)>hi then (12,hi,())
 else if 0≤badK (cls c) 0 s then (14,badK (cls c) 0 s,()) else (0,0,())
theorem zbh (n:Nat) (c:Int) (s:List UInt8) (lo hi:Int) (hs:s.length<4611686018427387904) (hn:s.length<n):F.za5 n c s lo hi=some (textF c s lo hi):=by
 unfold F.za5 textF
 rw [zyo n c s hs hn,za]
 cases hm:may c
 · rw [if_pos (Or.inl rfl)]; rfl
 · simp only [cond_true]
   have e:(!((0:Int)==0))=false:=rfl
   rw [e,cond_false]
   by_cases h1:lo<0
   · rw [zd h1,if_pos (Or.inr (Or.inl h1))]
   · rw [ze h1]
     by_cases h2:hi<lo
     · rw [zd h2,if_pos (Or.inr (Or.inr h2))]
     · rw [ze h2,if_neg (by simp [h1,h2])]
       by_cases h3:(s.length:Int)<lo
       · rw [zd h3,if_pos h3]
       · rw [ze h3,if_neg h3]
         by_cases h4:(s.length:Int)>hi
         · rw [zd h4,if_pos h4]
         · rw [ze h4,if_neg h4]
           by_cases h5:0≤badK (cls c) 0 s
           · rw [zd (by omega),if_pos h5]
           · rw [ze (by omega),if_neg h5]
def bytesOf (c:Int):List UInt8:=
 bif c==1 then [65,66,67,68,69,70,71,72,73,74,75,76,77,78,79,80,81,82,83,84,85,86,87,88,89,90,97,98,99,100,101,102,103,104,105,106,107,108,109,110,111,112,113,114,115,116,117,118,119,120,121,122,48,49,50,51,52,53,54,55,56,57,95,46,45]
 else bif c==2 then [65,66,67,68,69,70,71,72,73,74,75,76,77,78,79,80,81,82,83,84,85,86,87,88,89,90,97,98,99,100,101,102,103,104,105,106,107,108,109,110,111,112,113,114,115,116,117,118,119,120,121,122,48,49,50,51,52,53,54,55,56,57,95,46,45,47]
 else bif c==3 then [65,66,67,68,69,70,71,72,73,74,75,76,77,78,79,80,81,82,83,84,85,86,87,88,89,90,97,98,99,100,101,102,103,104,105,106,107,108,109,110,111,112,113,114,115,116,117,118,119,120,121,122,48,49,50,51,52,53,54,55,56,57,95,46,45,47,33,34,35,36,37,38,39,40,41,42,43,58,59,60,61,62,63,64,91,92,93,94,96,123,125,126]
 else bif c==4 then [48,49,50,51,52,53,54,55,56,57] else []
theorem zrd (n:Nat) (c:Int):F.zcb n c=some (bytesOf c):=by
 unfold F.zcb bytesOf
 rw [zd (by decide),zd (by decide),zd (by decide),zd (by decide)]
 cases c==1<;>cases c==2<;>cases c==3<;>cases c==4<;>rfl
theorem znc (n:Nat) (X:Type) (k0:Unit→Option X) (kr:Bool→Option X) (x:UInt8) (s:List UInt8) (hs:s.length<4611686018427387904):∀ (r:List UInt8) (k m:Nat),s.drop k=r→r.length<m →
 F.za0.L3 n k0 kr m (x.toNat:Int) s (k:Int)=if x∈r then kr true else k0 ():=by
 intro r
 induction r with
 | nil =>
  intro k m hk hm
  have:=zl hk
  cases m with
  | zero=>simp at hm
  | succ m =>
   show F.za0.L3.step n _ k0 kr _ s k=_
   unfold F.za0.L3.step
   rw [ze (by omega)]
   simp
 | cons y r ih =>
  intro k m hk hm
  obtain ⟨h1,h2,h3⟩:=zk hk
  cases m with
  | zero=>simp at hm
  | succ m =>
   show F.za0.L3.step n (F.za0.L3 n k0 kr m) k0 kr _ s k=_
   unfold F.za0.L3.step
   rw [zd (by omega),zm,h2,za]
   by_cases hx:x=y
   · subst hx; simp
   · have:¬ (y.toNat:Int)=(x.toNat:Int):=fun h=>hx (za9 (by omega)).symm
     have e:((y.toNat:Int)==(x.toNat:Int))=false:=by simpa using this
     rw [e,cond_false,zh (by omega),ih (k+1) m h3 (by simp at hm; omega)]
     simp [hx]
theorem znd:∀ i:Fin 256,(UInt8.ofNat i.val∈bytesOf 1↔cls 1 (UInt8.ofNat i.val)=true)∧(UInt8.ofNat i.val∈bytesOf 2↔cls 2 (UInt8.ofNat i.val)=true)∧(UInt8.ofNat i.val∈bytesOf 3↔cls 3 (UInt8.ofNat i.val)=true)∧(UInt8.ofNat i.val∈bytesOf 4↔cls 4 (UInt8.ofNat i.val)=true):=by decide +kernel
theorem zob (c:Int) (b:UInt8):b∈bytesOf c↔cls c b=true:=by
 have h:=znd ⟨b.toNat,b.toNat_lt⟩
 have e:UInt8.ofNat b.toNat=b:=by simp
 simp only [e] at h
 by_cases h1:c=1
 · subst h1; exact h.1
 by_cases h2:c=2
 · subst h2; exact h.2.1
 by_cases h3:c=3
 · subst h3; exact h.2.2.1
 by_cases h4:c=4
 · subst h4; exact h.2.2.2
 have b1:(c==1)=false:=by simp [h1]
 have b2:(c==2)=false:=by simp [h2]
 have b3:(c==3)=false:=by simp [h3]
 have b4:(c==4)=false:=by simp [h4]
 unfold bytesOf cls
 rw [b1,b2,b3,b4]
 simp
theorem zzd (n:Nat) (hn:100≤n) (c:Int) (x:UInt8):F.za0 n c (x.toNat:Int)=some (cls c x):=by
 unfold F.za0
 rw [zrd,za]
 have hl:(bytesOf c).length<100:=by
  unfold bytesOf
  cases c==1<;>cases c==2<;>cases c==3<;>cases c==4<;>decide
 refine (znc n _ _ _ x (bytesOf c) (by omega) (bytesOf c) 0 n rfl (by omega)).trans ?_
 by_cases h:x∈bytesOf c
 · rw [if_pos h,(zob c x).1 h]
 · rw [if_neg h]
   cases e:cls c x
   · rfl
   · exact absurd ((zob c x).2 e) h
theorem zlr (n:Nat) (hn:100≤n) (X:Type) (k0:Unit→Option X) (kr:Int→Option X) (c:Int) (s:List UInt8) (hs:s.length<4611686018427387904):∀ (r:List UInt8) (k m:Nat),s.drop k=r→r.length<m →
 F.zas.L2 n k0 kr m c s (k:Int)=if 0≤badK (cls c) k r then kr (badK (cls c) k r) else k0 ():=by
 intro r
 induction r with
 | nil =>
  intro k m hk hm
  have:=zl hk
  cases m with
  | zero=>simp at hm
  | succ m =>
   show F.zas.L2.step n _ k0 kr c s k=_
   unfold F.zas.L2.step
   rw [ze (by omega)]
   rfl
 | cons x r ih =>
  intro k m hk hm
  obtain ⟨h1,h2,h3⟩:=zk hk
  cases m with
  | zero=>simp at hm
  | succ m =>
   show F.zas.L2.step n (F.zas.L2 n k0 kr m) k0 kr c s k=_
   unfold F.zas.L2.step
   rw [zd (by omega),zm,h2,za,zzd n hn,za]
   unfold badK
   by_cases hx:cls c x=true
   · rw [hx,if_pos rfl,zh (by omega),ih (k+1) m h3 (by simp at hm; omega)]
     rfl
   · have hx:cls c x=false:=by simpa using hx
     rw [hx]
     have:¬ (false=true):=by simp
     rw [if_neg this,if_pos (by omega)]
     rfl
theorem zij (n:Nat) (h100:100≤n) (c:Int) (s:List UInt8) (hs:s.length<4611686018427387904) (hn:s.length<n):F.zas n c s=some (badK (cls c) 0 s):=by
 unfold F.zas
 refine (zlr n h100 _ _ _ c s hs s 0 n rfl hn).trans ?_
 by_cases h:0≤badK (cls c) 0 s
 · rw [if_pos h]
 · rw [if_neg h]
   have:s.all (cls c)=true:=Classical.byContradiction fun hh=>h ((zcx _ _ _).2 hh)
   rw [zlp _ _ _ this]
end Go.AM
set_option linter.unusedVariables false
set_option linter.unusedSimpArgs false
namespace Go.AM
def seg (c:UInt8) (s:List UInt8):List UInt8:=s.takeWhile (· != c)
theorem zaj (c b:UInt8) (s:List UInt8):seg c (b::s)=if b=c then [] else b::seg c s:=by
 unfold seg
 by_cases h:b=c
 · subst h; simp [List.takeWhile_cons]
 · simp [List.takeWhile_cons,h]
theorem z6 (c:UInt8) (s:List UInt8):(seg c s).length≤s.length:=(List.takeWhile_sublist _).length_le
theorem zoc (c:UInt8) (s:List UInt8):Lib.indexByte s c=if c∈s then ((seg c s).length:Int) else -1:=by
 induction s with
 | nil=>simp [Lib.indexByte]
 | cons b s ih =>
  rw [zaj]
  simp only [Lib.indexByte,beq_iff_eq,List.mem_cons]
  by_cases h:b=c
  · subst h; simp
  · rw [if_neg h,ih]
    have h':¬ c=b:=fun hh=>h hh.symm
    by_cases hm:c∈s
    · rw [if_pos hm,if_pos (Or.inr hm),if_neg h]
      rw [if_neg (by omega),List.length_cons]
      omega
    · rw [if_neg hm,if_pos rfl,if_neg (by simp [h',hm])]
theorem zal {c:UInt8} {s:List UInt8} (h:c∉s):seg c s=s:=by
 induction s with
 | nil=>rfl
 | cons b s ih =>
  rw [zaj,if_neg (fun hh=>h (by simp [hh])),ih (fun hh=>h (by simp [hh]))]
theorem zae {c:UInt8} {s:List UInt8} (h:c∈s):(seg c s).length<s.length:=by
 induction s with
 | nil=>simp at h
 | cons b s ih =>
  rw [zaj]
  by_cases hb:b=c
  · rw [if_pos hb]; simp
  · rw [if_neg hb]
    have:c∈s:=by
     rcases List.mem_cons.1 h with rfl | h
     · exact absurd rfl hb
     · exact h
    have:=ih this
    simp
    omega
theorem zed (c:UInt8) (s:List UInt8):s.take (seg c s).length=seg c s:=by
 induction s with
 | nil=>rfl
 | cons b s ih =>
  rw [zaj]
  by_cases hb:b=c
  · rw [if_pos hb]; rfl
  · rw [if_neg hb]; simp [ih]
theorem zbz (n:Nat) (c:UInt8) {s:List UInt8} (hs:s.length≤1000000):F.zap n s [c]=some (seg c s,(if c∈s then s.drop ((seg c s).length+1) else []),decide (c∈s),()):=by
 unfold F.zap F.zbp O.index1
 simp only [za]
 rw [zoc]
 by_cases h:c∈s
 · have hl:=zae h
   have s1:sub s 0 ((seg c s).length:Int)=some (seg c s):=by
    have:=zo s 0 (seg c s).length (by omega) (by omega)
    rw [List.drop_zero,zed] at this
    exact this
   have s2:sub s (((seg c s).length+1:Nat):Int) (s.length:Int)=some (s.drop ((seg c s).length+1)):=by
    have:=zo s ((seg c s).length+1) s.length (by omega) (Nat.le_refl _)
    rw [List.take_length] at this
    exact this
   have hw:IntKind.wrap .i64 (((seg c s).length:Int)+((([c]:List UInt8).length:Nat):Int))=(((seg c s).length+1:Nat):Int):=zh (by omega)
   simp only [h,if_true,decide_true]
   rw [zd (by omega),s1,za,hw,s2]
   rfl
 · simp only [h,if_false,decide_false]
   rw [ze (by omega),zal h]
   rfl
theorem za4 {s:List UInt8} {p:Nat} (h:p≤s.length):sub s (p:Int) (s.length:Int)=some (s.drop p):=by
 have:=zo s p s.length h (Nat.le_refl _)
 rw [List.take_length] at this
 exact this
def nextP (c:UInt8) (s:List UInt8) (p:Nat):Nat:=p+(seg c (s.drop p)).length+(if c∈s.drop p then 1 else 0)
theorem zg3 {c:UInt8} {s:List UInt8} {p:Nat} (h:p≤s.length):nextP c s p≤s.length:=by
 unfold nextP
 by_cases hm:c∈s.drop p
 · have:=zae hm
   simp at this
   rw [if_pos hm]; omega
 · have:=z6 c (s.drop p)
   simp at this
   rw [if_neg hm]; omega
theorem zci {s:List UInt8} (h:(parseR s).2.1.1=0):(parseR s).2.1.2.1=0:=by
 unfold parseR outR badR at h ⊢
 split
 · rename_i h1
   rw [if_pos h1] at h
   split
   · rfl
   · rename_i h2
     rw [if_neg h2] at h
     first | done | exact absurd h h2
 · rename_i h1
   rw [if_neg h1] at h
   exact absurd h h1
theorem zls {c:Int} {s:List UInt8} {lo hi:Int} (h:(textF c s lo hi).1=0):(textF c s lo hi).2.1=0:=by
 unfold textF at h ⊢
 by_cases h1:may c=false∨lo<0∨hi<lo
 · rw [if_pos h1]
 rw [if_neg h1] at h ⊢
 by_cases h2:(s.length:Int)<lo
 · rw [if_pos h2] at h; cases h
 rw [if_neg h2] at h ⊢
 by_cases h3:(s.length:Int)>hi
 · rw [if_pos h3] at h; cases h
 rw [if_neg h3] at h ⊢
 by_cases h4:0≤badK (cls c) 0 s
 · rw [if_pos h4] at h; cases h
 rw [if_neg h4]
abbrev MetD:=List UInt8×Int×List (Bool×Int×Int)×Int×List (List UInt8×List UInt8)×Int×Unit
abbrev MetR:=MetD×FaultR×Unit
end Go.AM
set_option linter.unusedVariables false
set_option linter.unusedSimpArgs false
namespace Go.AM
theorem zne (n:Nat):∀ (m u:Nat),u<18446744073709551616→Lib.nDigits u≤m→F.zal.go n m (u:Int)=some (Lib.decDigits u):=by
 intro m
 induction m with
 | zero =>
  intro u _ h
  have:=Lib.nDigits_pos u
  omega
 | succ m ih =>
  intro u hu h
  have one:∀ d:Nat,d<10→sub ([48,49,50,51,52,53,54,55,56,57]:List UInt8) (d:Int) ((d+1:Nat):Int)=some [UInt8.ofNat (48+d)]:=by
   intro d hd
   rw [zo _ _ _ (by omega) (by simp; omega)]
   have:=(by decide:∀ d:Fin 10,(([48,49,50,51,52,53,54,55,56,57]:List UInt8).take (d.val+1)).drop d.val=[UInt8.ofNat (48+d.val)]) ⟨d,hd⟩
   rw [this]
  show (bif decide ((u:Int)<10) then _ else _)=_
  by_cases h1:u<10
  · rw [zd (by omega),show IntKind.wrap .u64 ((u:Int)+1)=((u+1:Nat):Int) from by rw [IntWalk.u64_in _ (by omega)]; omega,one u h1,za,zb6 h1]
  · rw [ze (by omega)]
    have e1:(u:Int).tdiv 10=((u / 10:Nat):Int):=rfl
    have e2:(u:Int).tmod 10=((u % 10:Nat):Int):=rfl
    have hN:=Lib.nDigits_big h1
    rw [e1,e2,IntWalk.u64_in _ (by omega),ih (u / 10) (by omega) (by omega),za,show IntKind.wrap .u64 (((u % 10:Nat):Int)+1)=((u % 10+1:Nat):Int) from by rw [IntWalk.u64_in _ (by omega)]; omega,one (u % 10) (by omega),za,zhw h1,zd]
    have:=Lib.nDigits_le20 (u / 10) (by omega)
    rw [zcg,zj]
    simp; omega
theorem digits03 (n:Nat) (hn:20≤n) (u:Nat) (hu:u<two64):F.zal n (u:Int)=some (Lib.decDigits u):=by
 unfold F.zal
 exact zne n n u hu (Nat.le_trans (Lib.nDigits_le20 u hu) hn)
theorem zre (n:Nat) (X:Type) (k0:Bool→(List UInt8)→Int→Bool→Int→Int→Option X) (neg b:Bool) (e x y:Int):∀ (d:List UInt8) (m:Nat),d.length<m→d.length<4611686018427387904→F.zd.L1 n k0 m neg d e b x y=k0 neg (lz d) e b x y:=by
 intro d
 induction d with
 | nil =>
  intro m hm _
  obtain ⟨m,rfl⟩:∃ q,m=q+1:=⟨m - 1,by omega⟩
  rfl
 | cons c d ih =>
  intro m hm hl
  obtain ⟨m,rfl⟩:∃ q,m=q+1:=⟨m - 1,by omega⟩
  show F.zd.L1.step n (F.zd.L1 n k0 m) k0 neg (c::d) e b x y=_
  unfold F.zd.L1.step
  have ei:idx (c::d) (0:Int)=some c:=rfl
  rw [zd (by simp),ei,za,zo4]
  have hsub:sub (c::d) 1 (((c::d).length:Nat):Int)=some d:=by
   have:=zo (c::d) 1 (c::d).length (by simp) (by simp)
   rw [List.take_length] at this
   exact this
  by_cases h:c=48
  · subst h
    rw [decide_eq_true rfl,cond_true,hsub,za,ih m (by simp at hm; omega) (by simp at hl; omega)]
    congr 1
  · rw [decide_eq_false h,cond_false]
    unfold lz
    have e':(c::d).dropWhile (· == 48)=c::d:=by simp [List.dropWhile_cons,h]
    rw [e']
theorem zo9 (n:Nat) (X:Type) (k2:Bool→(List UInt8)→Int→Bool→Int→Int→Option X) (neg b:Bool) (x y:Int) (a:List UInt8) (ha:a≠[]) (hl:∀ x,a.getLast? = some x→x≠48) (hal:a.length≤100000):∀ (z m:Nat) (e:Int),z<m→z≤100000→-2000000≤e→e≤2000 →
 ∃ j,j≤z∧F.zd.L7 n k2 m neg (a++List.replicate z 48) e b x y=k2 neg (a++List.replicate j 48) (e+z - j) b x y∧(j=0∨18≤e+z - j)∧(e+z - j≤18∨j=z):=by
 intro z
 induction z with
 | zero =>
  intro m e hm hz he1 he2
  obtain ⟨m,rfl⟩:∃ q,m=q+1:=⟨m - 1,by omega⟩
  refine ⟨0,Nat.le_refl _,?_,Or.inl rfl,Or.inr rfl⟩
  show F.zd.L7.step n _ k2 _ _ _ _ _ _=_
  unfold F.zd.L7.step
  obtain ⟨c,c1,c2⟩:=zut ha hl
  have hp:0<a.length:=List.length_pos_iff.2 ha
  have hw:IntKind.wrap .i64 ((a.length:Int) - 1)=(a.length:Int) - 1:=zi (by omega)
  rw [List.replicate_zero,List.append_nil,hw,c1,za,zo4,decide_eq_false c2,cond_false,show e+((0:Nat):Int) - ((0:Nat):Int)=e from by omega]
  cases decide (e<18)<;>rfl
 | succ z ih =>
  intro m e hm hz he1 he2
  obtain ⟨m,rfl⟩:∃ q,m=q+1:=⟨m - 1,by omega⟩
  have hstep:F.zd.L7 n k2 (m+1) neg (a++List.replicate (z+1) 48) e b x y=F.zd.L7.step n (F.zd.L7 n k2 m) k2 neg (a++List.replicate (z+1) 48) e b x y:=rfl
  rw [hstep]
  unfold F.zd.L7.step
  by_cases h18:e<18
  · obtain ⟨l1,l2⟩:=zus a z
    have hlen:(a++List.replicate (z+1) (48:UInt8)).length=a.length+z+1:=by simp; omega
    have hw:IntKind.wrap .i64 (((a++List.replicate (z+1) (48:UInt8)).length:Int) - 1)=((a++List.replicate (z+1) (48:UInt8)).length:Int) - 1:=zi (by omega)
    rw [zd h18,hw,l1,za,zo4,decide_eq_true rfl,cond_true,l2,za,zi (by omega)]
    obtain ⟨j,j1,j2,j3,j4⟩:=ih m (e+1) (by omega) (by omega) (by omega) (by omega)
    refine ⟨j,by omega,?_,?_,?_⟩
    · rw [j2]
      congr 1
      omega
    · rcases j3 with j3 | j3
      · exact Or.inl j3
      · exact Or.inr (by omega)
    · exact Or.inl (by omega)
  · rw [ze h18]
    refine ⟨z+1,Nat.le_refl _,?_,Or.inr (by omega),Or.inr rfl⟩
    congr 1
    omega
theorem zuz (n:Nat) (X:Type) (k4:Bool→(List UInt8)→Int→Bool→Int→Int→Option X) (neg b:Bool) (x y:Int):∀ (d m:Nat) (a:List UInt8),d<m→a.length+d≤1000000→F.zd.L10 n k4 m neg a (18+(d:Int)) b x y=k4 neg (a++List.replicate d 48) 18 b x y:=by
 intro d
 induction d with
 | zero =>
  intro m a hm hl
  obtain ⟨m,rfl⟩:∃ q,m=q+1:=⟨m - 1,by omega⟩
  show F.zd.L10.step n _ k4 _ _ _ _ _ _=_
  unfold F.zd.L10.step
  rw [ze (by omega),List.replicate_zero,List.append_nil]
  rfl
 | succ d ih =>
  intro m a hm hl
  obtain ⟨m,rfl⟩:∃ q,m=q+1:=⟨m - 1,by omega⟩
  show F.zd.L10.step n (F.zd.L10 n k4 m) k4 _ _ _ _ _ _=_
  unfold F.zd.L10.step
  rw [zd (by omega),zd (by rw [zj]; omega),zi (by omega),show 18+((d+1:Nat):Int) - 1=18+(d:Int) from by omega,ih m _ (by omega) (by simp; omega),List.append_assoc,List.replicate_succ]
  rfl
theorem zze (n:Nat) (X:Type) (k4:Bool→(List UInt8)→Int→Bool→Int→Int→Option X) (neg b:Bool) (x y:Int) (m:Nat) (hm:0<m) (a:List UInt8) (E:Int) (h:¬ E>18):F.zd.L10 n k4 m neg a E b x y=k4 neg a E b x y:=by
 obtain ⟨m,rfl⟩:∃ q,m=q+1:=⟨m - 1,by omega⟩
 show F.zd.L10.step n (F.zd.L10 n k4 m) k4 _ _ _ _ _ _=_
 unfold F.zd.L10.step
 rw [ze h]
theorem zyp (n:Nat) {d:List UInt8} (hd:Digs d) (hne:d≠[]) (hh:∀ x,d.head? = some x→x≠48):F.zbx n d=some (decide (val d<two64)):=by
 unfold F.zbx
 have hlt:=zbw hd
 have hge:=zq9 hd hne hh
 have hp:0<d.length:=List.length_pos_iff.2 hne
 rw [zz]
 by_cases h1:d.length<20
 · have:10 ^ d.length≤10 ^ 19:=Nat.pow_le_pow_right (by omega) (by omega)
   have h2:val d<18446744073709551616:=by omega
   rw [zd (by omega),decide_eq_true h2]
 rw [ze (by omega)]
 by_cases h2:d.length=20
 · have e:((d.length:Int)==20)=true:=by rw [h2]; rfl
   rw [e,cond_true]
   have hm:Digs [49,56,52,52,54,55,52,52,48,55,51,55,48,57,53,53,49,54,49,53]:=rfl
   have hv:val [49,56,52,52,54,55,52,52,48,55,51,55,48,57,53,53,49,54,49,53]=18446744073709551615:=rfl
   rw [zur hd hm h2,hv]
   congr 1
   by_cases h3:val d<18446744073709551615
   · simp [h3]; omega
   · by_cases h4:val d=18446744073709551615
     · have:d=[49,56,52,52,54,55,52,52,48,55,51,55,48,57,53,53,49,54,49,53]:=zii hd hm h2 (h4.trans hv.symm)
       rw [decide_eq_false h3,this,beq_self_eq_true,hv]
       rfl
     · have hne':¬ d=[49,56,52,52,54,55,52,52,48,55,51,55,48,57,53,53,49,54,49,53]:=fun hh=>h4 (by rw [hh]; exact hv)
       rw [decide_eq_false h3,beq_eq_false_iff_ne.2 hne',decide_eq_false (show ¬ val d<18446744073709551616 by omega)]
       rfl
 · have e:((d.length:Int)==20)=false:=by
    have:¬ (d.length:Int)=20:=by omega
    simpa using this
   have:10 ^ 20≤10 ^ (d.length - 1):=Nat.pow_le_pow_right (by omega) (by omega)
   rw [e,cond_false,decide_eq_false (by omega)]
theorem zlt (n:Nat) (X:Type) (k0:Int→Option X) (s:List UInt8) (hs:s.length<4611686018427387904) (hv:val s<two64):∀ (r:List UInt8) (k m:Nat),s.drop k=r→r.length<m→Digs r →
 F.zag.L3 n k0 m s (val (s.take k):Int) (k:Int)=k0 (val s):=by
 intro r
 induction r with
 | nil =>
  intro k m hk hm hd
  have hk:=zl hk
  obtain ⟨m,rfl⟩:∃ q,m=q+1:=⟨m - 1,by omega⟩
  show F.zag.L3.step n _ k0 s _ k=_
  unfold F.zag.L3.step
  rw [ze (by omega),List.take_of_length_le hk]
 | cons x r ih =>
  intro k m hk hm hd
  obtain ⟨h1,h2,h3⟩:=zk hk
  obtain ⟨d1,d2⟩:=zv.1 hd
  have hx:=zac.1 d1
  obtain ⟨m,rfl⟩:∃ q,m=q+1:=⟨m - 1,by omega⟩
  show F.zag.L3.step n (F.zag.L3 n k0 m) k0 s _ k=_
  unfold F.zag.L3.step
  have htk:s.take (k+1)=s.take k++[x]:=by rw [List.take_add_one,h2]; rfl
  have hvk:val (s.take (k+1))=val (s.take k)*10+dv x:=by rw [htk,zb5]
  have hsv:val (s.take (k+1))≤val s:=by
   have e:s=s.take (k+1)++s.drop (k+1):=(List.take_append_drop _ _).symm
   have h5:val s=val (s.take (k+1))*10 ^ (s.drop (k+1)).length+val (s.drop (k+1)):=by
    conv=>lhs; rw [e]
    rw [zbk]
   have:=Nat.le_mul_of_pos_right (val (s.take (k+1))) (Nat.pow_pos (n:=(s.drop (k+1)).length) (show 0<10 by omega))
   omega
  have hdl:=zf1 d1
  rw [zz] at hv
  have hdx:IntKind.wrap .u64 (IntKind.wrap .u8 ((x.toNat:Int) - 48))=(dv x:Int):=by
   have h8:IntKind.wrap .u8 ((x.toNat:Int) - 48)=(x.toNat:Int) - 48:=IntWalk.u8_in _ (by omega)
   rw [h8,IntWalk.u64_in _ (by omega)]; unfold dv; omega
  rw [zd (by omega),zm,h2,za,hdx,IntWalk.u64_in (10*(val (s.take k):Int)) (by omega),IntWalk.u64_in _ (by omega),zh (by omega),show 10*(val (s.take k):Int)+(dv x:Int)=(val (s.take (k+1)):Int) from by omega]
  exact ih (k+1) m h3 (by simp at hm; omega) d2
theorem value03 (n:Nat) (s:List UInt8) (hs:s.length<4611686018427387904) (hn:s.length<n) (hd:Digs s) (hv:val s<two64):F.zag n s=some (val s:Int):=
 zlt n _ _ s hs hv s 0 n rfl hn hd
theorem zik (n : Nat) (hn:200000≤n) (neg:Bool) (d:List UInt8) (hd:Digs d) (hl:d.length≤10000) (e:Int):F.zd n neg d e=some ((valR neg d e).1,(valR neg d e).2.1==0,()):=by
 unfold F.zd
 rw [zre n _ _ neg false e 0 0 d n (by omega) (by omega)]
 have hlz:=zv7 d
 by_cases h0:val d=0
 · have:lz d=[]:=by
    refine Classical.byContradiction fun hne => ?_
    have:=zq9 (zf3 hd) hne (fun x=>zn7)
    rw [zfi,h0] at this
    have:=Nat.pow_pos (n:=(lz d).length - 1) (show 0<10 by omega)
    omega
   unfold valR
   rw [if_pos h0,this]
   rfl
 have hne:lz d≠[]:=fun hh=>by have:=zfi d; rw [hh] at this; exact h0 this.symm
 have e0:(lz d==[])=false:=by simpa using hne
 simp only [e0,cond_false]
 have hD:=zf3 hd
 have hv0:val (lz d)≠0:=by rw [zfi]; exact h0
 have hcore:=zg1 hD hv0
 have hvt:=zn6 (lz d)
 generalize hzz:(lz d).length - (trz (lz d)).length=z at hvt
 have hR:valR neg d e=normR neg (val (trz (lz d))) (e+z):=zah hd hcore (by rw [← zfi]; exact hvt) neg e
 rw [hR]
 have hc0:0<val (trz (lz d)):=by omega
 have hnot:∀ w,20≤w→¬ val (trz (lz d))*10 ^ w<two64:=by
  intro w hw
  have h1:10 ^ 20≤10 ^ w:=Nat.pow_le_pow_right (by omega) hw
  have h2:=Nat.le_mul_of_pos_left (10 ^ w) hc0
  rw [zz]
  omega
 by_cases hbig:e>1000
 · rw [zd hbig]
   unfold normR
   rw [if_neg (by omega),if_neg (hnot _ (by omega))]
   rfl
 rw [ze hbig]
 by_cases hlow:e < -1000000
 · rw [zd hlow]
   unfold normR
   rw [if_pos (by omega)]
   rfl
 rw [ze hlow]
 have hpad:=zbr (lz d)
 rw [hzz] at hpad
 have hne':trz (lz d)≠[]:=fun hh=>hv0 ((zf2 hD).1 hh)
 have htl:=zc2 (lz d)
 have hhead:∀ (k:Nat) x,(trz (lz d)++List.replicate k 48).head? = some x→x≠48:=by
  intro k x hx
  cases e:trz (lz d) with
  | nil=>exact absurd e hne'
  | cons b r =>
   rw [e] at hx
   have hb:b=x:=by simpa using hx
   refine zn7 (d:=d) ?_
   rw [hpad,e,← hb]; rfl
 have fin : ∀ (k : Nat) (E:Int),k≤30000 →
  (bif decide (E < (-18:Int)) then some (((false,(0:Int),(0:Int),()),false,()))
   else
    (F.zbx n (trz (lz d)++List.replicate k 48)).bind fun y8 =>
     bif !y8 then
      some (((false,(0:Int),(0:Int),()),false,()))
     else
      (F.zag n (trz (lz d)++List.replicate k 48)).bind fun y9 =>
       some (((neg,y9,E,()),true,())))
  = some (if E < -18 then ((false,(0:Int),(0:Int),()),false,()) else if val (trz (lz d))*10 ^ k<two64 then ((neg,((val (trz (lz d))*10 ^ k:Nat):Int),E,()),true,()) else ((false,(0:Int),(0:Int),()),false,())):=by
  intro k E hk
  by_cases hE:E < -18
  · rw [zd hE,if_pos hE]
  · rw [ze hE,if_neg hE]
    have hdk:Digs (trz (lz d)++List.replicate k 48):=zu.2 ⟨zc3 hD,zbg _⟩
    have hlk:(trz (lz d)++List.replicate k (48:UInt8)).length=(trz (lz d)).length+k:=by simp
    rw [zyp n hdk (by simp [hne']) (hhead k),za,zy]
    by_cases hf:val (trz (lz d))*10 ^ k<two64
    · rw [decide_eq_true hf,if_pos hf,value03 n _ (by omega) (by omega) hdk (by rw [zy]; exact hf),za,zy]
      rfl
    · rw [decide_eq_false hf,if_neg hf]; rfl
 obtain ⟨j,j1,j2,j3,j4⟩:=zo9 n (DecD×Bool×Unit) (fun e6_0 e6_1 e6_2 e6_b0_0 e6_b0_1 e6_b0_2 =>
  F.zd.L10 n
   (fun e7_0 e7_1 e7_2 e7_b0_0 e7_b0_1 e7_b0_2 =>
    bif decide (e7_2<(-18:Int)) then
     some (((false,(0:Int),(0:Int),()),false,()))
    else
     (F.zbx n e7_1).bind fun y8 =>
      bif !y8 then
       some (((false,(0:Int),(0:Int),()),false,()))
      else
       (F.zag n e7_1).bind fun y9 =>
        some (((e7_0,y9,e7_2,()),true,()))) n e6_0 e6_1 e6_2 e6_b0_0 e6_b0_1 e6_b0_2) neg false 0 0 (trz (lz d)) hne' (fun x=>zb7) (by omega) z n e (by omega) (by omega) (by omega) (by omega)
 rw [← hpad] at j2
 refine j2.trans ?_
 unfold normR
 by_cases hE:e+z - j>18
 · obtain ⟨q,hq⟩:∃ q:Nat,e+z - j=18+(q:Int):=⟨(e+z - j - 18).toNat,by omega⟩
   rw [hq,zuz n _ _ neg false 0 0 q n _ (by omega) (by simp; omega),List.append_assoc,List.replicate_append_replicate,fin (j+q) 18 (by omega),if_neg (by omega),if_neg (show ¬ e+(z:Int) < -18 by omega),show (e+z - 18).toNat=j+q from by omega]
   by_cases hf:val (trz (lz d))*10 ^ (j+q)<two64
   · rw [if_pos hf,if_pos hf,if_neg (by omega)]; rfl
   · rw [if_neg hf,if_neg hf]; rfl
 · rw [zze n _ _ neg false 0 0 n (by omega) _ _ hE,fin j _ (by omega)]
   by_cases h18:e+z < -18
   · rw [if_pos (by omega),if_pos h18]; rfl
   · rw [if_neg (by omega),if_neg h18,show (e+z - 18).toNat=j from by omega]
     by_cases hf:val (trz (lz d))*10 ^ j<two64
     · rw [if_pos hf,if_pos hf]
       congr 4
       by_cases hh:e+z≤18
       · rw [if_pos hh]
         have:j=0∨e+z=18:=by omega
         congr 1
         omega
       · rw [if_neg hh]
         congr 1
         omega
     · rw [if_neg hf,if_neg hf]; rfl
end Go.AM
set_option linter.unusedVariables false
set_option linter.unusedSimpArgs false
namespace Go.AM
theorem digit03 (n:Nat) (x:UInt8):F.zcc n (x.toNat:Int)=some (isDig x):=by
 unfold F.zcc isDig
 by_cases h:48≤x.toNat
 · rw [zd (by omega)]; simp [h]; omega
 · rw [ze (by omega)]; simp [h]
theorem znf (n:Nat) (X:Type) (k0:(List UInt8)→Bool→(List UInt8)→Int→Bool→Bool→Int→Int→Int→Int→Option X) (kr:Bool→Int→Int→Int→Int→Option X) (s:List UInt8) (neg:Bool) (pt:Nat) (hs:s.length≤1000000) :
 ∀ (r:List UInt8) (k m:Nat) (d:List UInt8) (must:Bool),s.drop k=r→k≤s.length→r.length<m→d.length≤k →
 F.zp.L8 n k0 kr m s neg (k:Int) d (pt:Int) must false 0 0 0 0 =
  if k+(tw r).length=s.length then k0 s neg (d++tw r) (pt:Int) (must&&decide ((tw r).length=0)) false 0 0 0 0 else kr false 0 0 14 ((k+(tw r).length:Nat):Int):=by
 intro r
 induction r with
 | nil =>
  intro k m d must hk hkl hm hd
  have:=zl hk
  obtain ⟨m,rfl⟩:∃ q,m=q+1:=⟨m - 1,by omega⟩
  show F.zp.L8.step n _ k0 kr _ _ _ _ _ _ _ _ _ _ _=_
  unfold F.zp.L8.step
  have e:tw ([]:List UInt8)=[]:=rfl
  rw [ze (by omega),e,List.length_nil,if_pos (by omega),List.append_nil]
  simp
 | cons x r ih =>
  intro k m d must hk hkl hm hd
  obtain ⟨h1,h2,h3⟩:=zk hk
  obtain ⟨m,rfl⟩:∃ q,m=q+1:=⟨m - 1,by omega⟩
  show F.zp.L8.step n (F.zp.L8 n k0 kr m) k0 kr _ _ _ _ _ _ _ _ _ _ _=_
  unfold F.zp.L8.step
  rw [zd (by omega),zm,h2,za,digit03,za,za,zh (by omega)]
  by_cases hx:isDig x=true
  · have hsub:sub s (k:Int) ((k+1:Nat):Int)=some [x]:=by
     rw [zo s k (k+1) (by omega) (by omega),List.take_add_one,h2]
     have:(s.take k).length=k:=by simp; omega
     simp [List.drop_append,this]
    have e:tw (x::r)=x::tw r:=by unfold tw; simp [List.takeWhile_cons,hx]
    rw [hx,cond_true,hsub,za,zd (by rw [zj]; simp; omega),ih (k+1) m (d++[x]) false h3 (by omega) (by simp at hm; omega) (by simp; omega),e,List.length_cons,List.append_assoc]
    have e1:k+1+(tw r).length=k+((tw r).length+1):=by omega
    rw [e1]
    simp
  · have hx':isDig x=false:=by simpa using hx
    have e:tw (x::r)=[]:=by unfold tw; simp [List.takeWhile_cons,hx']
    have hpt:decide ((pt:Int)<0)=false:=by simp
    rw [hx',cond_false,hpt,cond_false,e,List.length_nil,if_neg (by omega)]
    cases ((x.toNat:Int)==46)<;>rfl
theorem zpa (n:Nat) (X:Type) (k0:(List UInt8)→Bool→(List UInt8)→Int→Bool→Bool→Int→Int→Int→Int→Option X) (kr:Bool→Int→Int→Int→Int→Option X) (s:List UInt8) (neg:Bool) (hs:s.length≤1000000) :
 ∀ (r:List UInt8) (k m:Nat) (d:List UInt8) (must:Bool),s.drop k=r→k≤s.length→r.length<m→d.length≤k →
 F.zp.L8 n k0 kr m s neg (k:Int) d (-1) must false 0 0 0 0 =
  if k+(tw r).length=s.length then k0 s neg (d++tw r) (-1) (must&&decide ((tw r).length=0)) false 0 0 0 0
  else if (s.drop (k+(tw r).length)).head? = some 46∧(must&&decide ((tw r).length=0))=false then
   (if k+(tw r).length+1+(tw (s.drop (k+(tw r).length+1))).length=s.length then
    k0 s neg ((d++tw r)++tw (s.drop (k+(tw r).length+1))) ((d++tw r).length:Int) (decide ((tw (s.drop (k+(tw r).length+1))).length=0)) false 0 0 0 0
    else kr false 0 0 14 ((k+(tw r).length+1+(tw (s.drop (k+(tw r).length+1))).length:Nat):Int))
  else kr false 0 0 14 ((k+(tw r).length:Nat):Int):=by
 intro r
 induction r with
 | nil =>
  intro k m d must hk hkl hm hd
  have:=zl hk
  obtain ⟨m,rfl⟩:∃ q,m=q+1:=⟨m - 1,by omega⟩
  show F.zp.L8.step n _ k0 kr _ _ _ _ _ _ _ _ _ _ _=_
  unfold F.zp.L8.step
  have e:tw ([]:List UInt8)=[]:=rfl
  rw [ze (by omega),e,List.length_nil,if_pos (by omega),List.append_nil]
  simp
 | cons x r ih =>
  intro k m d must hk hkl hm hd
  obtain ⟨h1,h2,h3⟩:=zk hk
  obtain ⟨m,rfl⟩:∃ q,m=q+1:=⟨m - 1,by omega⟩
  show F.zp.L8.step n (F.zp.L8 n k0 kr m) k0 kr _ _ _ _ _ _ _ _ _ _ _=_
  unfold F.zp.L8.step
  rw [zd (by omega),zm,h2,za,digit03,za,za,zh (by omega)]
  by_cases hx:isDig x=true
  · have hsub:sub s (k:Int) ((k+1:Nat):Int)=some [x]:=by
     rw [zo s k (k+1) (by omega) (by omega),List.take_add_one,h2]
     have:(s.take k).length=k:=by simp; omega
     simp [List.drop_append,this]
    have e:tw (x::r)=x::tw r:=by unfold tw; simp [List.takeWhile_cons,hx]
    rw [hx,cond_true,hsub,za,zd (by rw [zj]; simp; omega),ih (k+1) m (d++[x]) false h3 (by omega) (by simp at hm; omega) (by simp; omega),e,List.length_cons,List.append_assoc]
    have e1:k+1+(tw r).length=k+((tw r).length+1):=by omega
    rw [e1]
    simp
  · have hx':isDig x=false:=by simpa using hx
    have e:tw (x::r)=[]:=by unfold tw; simp [List.takeWhile_cons,hx']
    have hpt:decide ((-1:Int)<0)=true:=rfl
    rw [hx',cond_false,hpt,cond_true,e,List.length_nil,if_neg (by omega)]
    simp only [Nat.add_zero,hk,List.append_nil]
    by_cases h46:x=46
    · subst h46
      have e2:((((46:UInt8).toNat:Nat):Int)==46)=true:=rfl
      rw [e2,cond_true]
      cases must
      · simp only [Bool.not_false,cond_true,Bool.false_and,List.head?_cons,and_self,if_true]
        have hb:=znf n X k0 kr s neg d.length hs (s.drop (k+1)) (k+1) m d true rfl (by omega) (by rw [h3]; simp at hm; omega) (by omega)
        rw [hb]
        simp
      · simp
    · have e2:((x.toNat:Int)==46)=false:=by
       have:¬ (x.toNat:Int)=46:=fun hh=>h46 (za9 (by simp; omega))
       simpa using this
      rw [e2,cond_false,if_neg]
      rintro ⟨q,_⟩
      exact h46 (by simpa using q)
theorem zlu (n:Nat) (hn:200000≤n) (neg:Bool) (d:List UInt8) (hd:Digs d) (hl:d.length≤10000) (e:Int) :
 ((F.zd n neg d e).bind fun y7 =>
  bif !y7.2.1 then
   some (((false,(0:Int),(0:Int),()),((10:Int),(0:Int),()),()))
  else
   some (((y7.1.1,y7.1.2.1,y7.1.2.2.1,()),((0:Int),(0:Int),()),())))=some (outR (valR neg d e)):=by
 rw [zik n hn neg d hd hl e,za]
 unfold outR
 rcases zfj neg d e with h | ⟨h1,h2⟩
 · rw [h,if_pos rfl]; rfl
 · rw [h1,if_neg (by decide)]; rfl
theorem zcl (n:Nat) (hn:200000≤n) (s:List UInt8) (hs:s.length≤10000) (neg:Bool) (q:Nat) (hq:q≤s.length) :
 F.zp.L8 n
  (fun e6_0 e6_4 e6_6 e6_7 e6_8 e6_b0_0 e6_b0_1 e6_b0_2 e6_b1_0 e6_b1_1 =>
   bif e6_8 then
    some (((false,(0:Int),(0:Int),()),((11:Int),(e6_0.length:Int),()),()))
   else
   bif decide (e6_7≥(0:Int)) then
    (F.zd n e6_4 e6_6 (IntKind.wrap .i64 (e6_7 - (e6_6.length:Int)))).bind fun y7 =>
     bif !y7.2.1 then
      some (((false,(0:Int),(0:Int),()),((10:Int),(0:Int),()),()))
     else
      some (((y7.1.1,y7.1.2.1,y7.1.2.2.1,()),((0:Int),(0:Int),()),()))
   else
    (F.zd n e6_4 e6_6 (0:Int)).bind fun y8 =>
     bif !y8.2.1 then
      some (((false,(0:Int),(0:Int),()),((10:Int),(0:Int),()),()))
     else
      some (((y8.1.1,y8.1.2.1,y8.1.2.2.1,()),((0:Int),(0:Int),()),())))
  (fun e9_b0_0 e9_b0_1 e9_b0_2 e9_b1_0 e9_b1_1 =>
   some (((e9_b0_0,e9_b0_1,e9_b0_2,()),(e9_b1_0,e9_b1_1,()),()))) n s neg (q:Int) [] (-1:Int) true false (0:Int) (0:Int) (0:Int) (0:Int)
 = some (if (lookQ q s).1=0 then outR (valR neg (tw (s.drop q)++(if (s.drop (p1q q s)).head? = some 46 then tw (s.drop (p1q q s+1)) else [])) (-(((if (s.drop (p1q q s)).head? = some 46 then tw (s.drop (p1q q s+1)) else []:List UInt8).length:Nat):Int))) else badR (lookQ q s)):=by
 rw [zpa n _ _ _ s neg (by omega) (s.drop q) q n [] true rfl hq (by simp; omega) (by simp)]
 have hp1:q+(tw (s.drop q)).length=p1q q s:=rfl
 have hp3:p1q q s+1+(tw (s.drop (p1q q s+1))).length=p3q q s:=rfl
 have hA:(tw (s.drop q)).length≤10000:=by have:=zf4 (s.drop q); simp at this; omega
 have hB:(tw (s.drop (p1q q s+1))).length≤10000:=by have:=zf4 (s.drop (p1q q s+1)); simp at this; omega
 have hAB:(tw (s.drop q)).length+(tw (s.drop (p1q q s+1))).length≤10000:=by
  have h1:=zf4 (s.drop q)
  have h2:=zf4 (s.drop (p1q q s+1))
  simp at h1 h2
  omega
 rw [hp1,hp3]
 simp only [List.nil_append,Bool.true_and]
 have look:∀ f:FaultR,lookQ q s=f→(¬ f.1=0)→some (badR f)=some (if (lookQ q s).1=0 then outR (valR neg (tw (s.drop q)++(if (s.drop (p1q q s)).head? = some 46 then tw (s.drop (p1q q s+1)) else [])) (-(((if (s.drop (p1q q s)).head? = some 46 then tw (s.drop (p1q q s+1)) else []:List UInt8).length:Nat):Int))) else badR (lookQ q s)):=by
  intro f hf h0
  rw [hf,if_neg h0]
 by_cases hend:p1q q s=s.length
 ·
  have hdrop:s.drop (p1q q s)=[]:=List.drop_eq_nil_of_le (by omega)
  have hno:¬ ((s.drop (p1q q s)).head? = some 46):=by rw [hdrop]; simp
  rw [if_pos hend]
  by_cases hz:(tw (s.drop q)).length=0
  · have hl:lookQ q s=(11,(s.length:Int),()):=by
     unfold lookQ endR
     rw [if_neg (fun h=>hno h.2),if_neg (fun h=>by have:=h.1; omega),if_pos hend,hend]
    rw [decide_eq_true hz,cond_true]
    exact look _ hl (by show ¬ (11:Int)=0; decide)
  · have hh:¬ (-1:Int)≥0:=by omega
    have hl:lookQ q s=(0,0,()):=by
     unfold lookQ endR
     rw [if_neg (fun h=>hno h.2),if_pos ⟨by omega,hend⟩]
    rw [decide_eq_false hz,cond_false,ze hh,hl,if_pos rfl,if_neg hno,List.append_nil]
    exact zlu n hn neg _ (zbs _) hA 0
 · rw [if_neg hend]
   by_cases hpt:(s.drop (p1q q s)).head? = some 46
   · by_cases hz:(tw (s.drop q)).length=0
     · have hl:lookQ q s=(14,(p1q q s:Int),()):=by
        unfold lookQ endR
        rw [if_neg (fun h=>by have:=h.1; omega),if_neg (fun h=>hend h.2),if_neg hend]
       rw [if_neg (by simp [hz])]
       exact look _ hl (by show ¬ (14:Int)=0; decide)
     · rw [if_pos ⟨hpt,by simp [hz]⟩]
       have hpp:q<p1q q s∧(s.drop (p1q q s)).head? = some 46:=⟨by omega,hpt⟩
       by_cases h3:p3q q s=s.length
       · rw [if_pos h3]
         by_cases hb:(tw (s.drop (p1q q s+1))).length=0
         · have hl:lookQ q s=(11,(s.length:Int),()):=by
            unfold lookQ endR
            rw [if_pos hpp,if_neg (fun h=>by have:=h.1; omega),if_pos h3,h3]
           rw [decide_eq_true hb,cond_true]
           exact look _ hl (by show ¬ (11:Int)=0; decide)
         · have hl:lookQ q s=(0,0,()):=by
            unfold lookQ endR
            rw [if_pos hpp,if_pos ⟨by omega,h3⟩]
           rw [decide_eq_false hb,cond_false,zd (by omega),hl,if_pos rfl,if_pos hpt]
           have hw:IntKind.wrap .i64 (((tw (s.drop q)).length:Int) - ((tw (s.drop q)++tw (s.drop (p1q q s+1))).length:Int)) = -(((tw (s.drop (p1q q s+1))).length:Nat):Int):=by
            rw [List.length_append,zi (by omega)]; omega
           rw [hw]
           exact zlu n hn neg _ (zu.2 ⟨zbs _,zbs _⟩) (by rw [List.length_append]; exact hAB) _
       · have hl:lookQ q s=(14,(p3q q s:Int),()):=by
          unfold lookQ endR
          rw [if_pos hpp,if_neg (fun h=>h3 h.2),if_neg h3]
         rw [if_neg h3]
         exact look _ hl (by show ¬ (14:Int)=0; decide)
   · have hl:lookQ q s=(14,(p1q q s:Int),()):=by
      unfold lookQ endR
      rw [if_neg (fun h=>hpt h.2),if_neg (fun h=>hend h.2),if_neg hend]
     rw [if_neg (fun h=>hpt h.1)]
     exact look _ hl (by show ¬ (14:Int)=0; decide)
theorem zdp (n:Nat) (hn:200000≤n) (s:List UInt8) (hs:s.length≤10000):F.zp n s=some (parseR s):=by
 unfold F.zp
 cases s with
 | nil=>exact zcl n hn [] hs false 0 (by simp)
 | cons b s =>
  have ei:idx (b::s) (0:Int)=some b:=rfl
  rw [zd (by simp),ei,za]
  by_cases h:b=45
  · subst h
    have e2:((((45:UInt8).toNat:Nat):Int)==45)=true:=rfl
    rw [e2,cond_true]
    exact zcl n hn (45::s) hs true 1 (by simp)
  · have e2:((b.toNat:Int)==45)=false:=by
     have:¬ (b.toNat:Int)=45:=fun hh=>h (za9 (by simp; omega))
     simpa using this
    rw [e2,cond_false]
    have hp:p0 (b::s)=0:=by unfold p0; rw [if_neg (by simpa using h)]
    have hneg:negD (b::s)=false:=by unfold negD; simpa using h
    have:=zcl n hn (b::s) hs false 0 (by simp)
    refine this.trans ?_
    unfold parseR lookR behindD aheadD
    rw [hp,hneg]
end Go.AM
set_option linter.unusedVariables false
set_option linter.unusedSimpArgs false
namespace Go.AM
abbrev DecL:=Bool×Int×Int
abbrev TagL:=List UInt8×List UInt8
def DecLOK (d:DecL):Prop:=True∧(0≤d.2.1∧d.2.1≤18446744073709551615) ∧ -9223372036854775808≤d.2.2∧d.2.2≤9223372036854775807
def decC (d:DecL):Int:=checkR d.1 d.2.1.toNat d.2.2
theorem za5 {d:DecL} (h:DecLOK d):∃ (neg:Bool) (c:Nat) (e:Int),d=(neg,(c:Int),e)∧c<two64 ∧ -9223372036854775808≤e∧e≤9223372036854775807:=by
 obtain ⟨neg,c,e⟩:=d
 obtain ⟨_,⟨h1,h2⟩,h3,h4⟩:=h
 simp only at h1 h2 h3 h4
 refine ⟨neg,c.toNat,e,?_,?_,h3,h4⟩
 · rw [show ((c.toNat:Nat):Int)=c from by omega]
 · rw [zz]; omega
theorem zu0 (n:Nat) (hn:100≤n) {d:DecL} (h:DecLOK d):F.zb3 n (d.1,d.2.1,d.2.2,())=some (decC d):=by
 obtain ⟨neg,c,e,rfl,hc,he⟩:=za5 h
 exact zln n hn neg c hc e he
def nameOK (s:List UInt8):Bool:=(textF 1 s 1 200).1==0
def tagGood (t:TagL):Bool:=((textF 2 t.1 1 64).1==0)&&((textF 3 t.2 0 100).1==0)
theorem za6 (c:Int) (s:List UInt8) (lo hi:Int):(((textF c s lo hi).1==0)&&((textF c s lo hi).2.1==0))=((textF c s lo hi).1==0):=by
 by_cases h:(textF c s lo hi).1=0
 · rw [h,zls h]; rfl
 · rw [beq_eq_false_iff_ne.2 h]; rfl
theorem zcj (n:Nat) (hn:100≤n) (c:Int) (s:List UInt8) (lo hi:Int) (hm:may c=true) (hlo:0≤lo) (hhi:lo≤hi) (hs:s.length<4611686018427387904) (hl:s.length<n):F.zbw n c s lo hi=some (textF c s lo hi):=by
 unfold F.zbw textF
 rw [zij n hn c s hs hl,za,if_neg (by simp [hm]; omega)]
 by_cases h3:(s.length:Int)<lo
 · rw [zd h3,if_pos h3]
 · rw [ze h3,if_neg h3]
   by_cases h4:(s.length:Int)>hi
   · rw [zd h4,if_pos h4]
   · rw [ze h4,if_neg h4]
     by_cases h5:0≤badK (cls c) 0 s
     · rw [zd (by omega),if_pos h5]
     · rw [ze (by omega),if_neg h5]
def TagLOK (t:TagL):Prop:=t.1.length≤10000∧t.2.length≤10000
theorem zil (n:Nat) (hn:200000≤n) {t:TagL} (h:TagLOK t):F.zb2 n (t.1,t.2,())=some (bif tagGood t then 0 else 19):=by
 obtain ⟨h1,h2⟩:=h
 unfold F.zb2 tagGood
 simp only [zbh n 2 t.1 1 64 (by omega) (by omega),zbh n 3 t.2 0 100 (by omega) (by omega),za,za6]
 cases ((textF 2 t.1 1 64).1==0)<;>cases ((textF 3 t.2 0 100).1==0)<;>rfl
theorem zyq (n:Nat) (hn:200000≤n) {t:TagL} (h:TagLOK t):F.zcg n (t.1,t.2,())=some (bif tagGood t then 0 else 19):=by
 obtain ⟨h1,h2⟩:=h
 unfold F.zcg F.zbd tagGood
 simp only [zcj n (by omega) 2 t.1 1 64 rfl (by omega) (by omega) (by omega) (by omega),zcj n (by omega) 3 t.2 0 100 rfl (by omega) (by omega) (by omega) (by omega),za,za6]
 cases ((textF 2 t.1 1 64).1==0)<;>cases ((textF 3 t.2 0 100).1==0)<;>rfl
def kindB (k:Int):Bool:=decide (1≤k)&&decide (k≤5)
def valsB (vs:List DecL):Bool:=decide (1≤vs.length)&&(decide (vs.length≤64)&&vs.all fun d=>decC d==0)
def rateB (k r:Int):Bool:=decide (1≤r)&&(decide (r≤1000000)&&(!(k==2)||r==1000000))
def tagsB (ts:List TagL):Bool:=decide (ts.length≤32)&&ts.all tagGood
def timeB (t:Int):Bool:=decide (0≤t)&&decide (t≤1099511627776)
def chkM (m:MetD):Int:=
 bif !nameOK m.1 then 15 else bif !kindB m.2.1 then 16 else bif !valsB m.2.2.1 then 17 else bif !rateB m.2.1 m.2.2.2.1 then 18 else bif !tagsB m.2.2.2.2.1 then 19 else bif !timeB m.2.2.2.2.2.1 then 20 else 0
def MetOK (m:MetD):Prop:=m.1.length≤10000∧(m.2.2.1.length≤10000∧∀ d∈m.2.2.1,DecLOK d)∧(m.2.2.2.2.1.length≤10000∧∀ t∈m.2.2.2.2.1,TagLOK t)
theorem zrf (n:Nat) (hn:200000≤n) (k0:List UInt8→Int→List DecL→Int→List TagL→Int→Option Bool) (kr:Int→List UInt8→Int→List DecL→Int→List TagL→Int→Option Bool) (h0:∀ a b c d e f,k0 a b c d e f=some true) (hr:∀ i a b c d e f,0≤i→kr i a b c d e f=some false) (vs:List DecL) (hs:vs.length≤10000) (hok:∀ d∈vs,DecLOK d) (b0:List UInt8) (b1:Int) (b2:List DecL) (b3:Int) (b4:List TagL) (b5:Int):∀ (r:List DecL) (k m:Nat),vs.drop k=r→r.length<m →
 F.zm.L2_slices_IndexFunc_api_Dec_api_Dec n k0 kr m vs (vs.length:Int) (k:Int) b0 b1 b2 b3 b4 b5=some (r.all fun d=>decC d==0):=by
 intro r
 induction r with
 | nil =>
  intro k m hk hm
  have:=zl hk
  cases m with
  | zero=>simp at hm
  | succ m =>
   show F.zm.L2_slices_IndexFunc_api_Dec_api_Dec.step n _ k0 kr vs _ _ _ _ _ _ _ _=_
   unfold F.zm.L2_slices_IndexFunc_api_Dec_api_Dec.step
   rw [ze (by omega),h0]
   rfl
 | cons x r ih =>
  intro k m hk hm
  obtain ⟨h1,h2,h3⟩:=zk hk
  have hx:DecLOK x:=hok x (List.mem_of_getElem? h2)
  cases m with
  | zero=>simp at hm
  | succ m =>
   show F.zm.L2_slices_IndexFunc_api_Dec_api_Dec.step n (F.zm.L2_slices_IndexFunc_api_Dec_api_Dec n k0 kr m) k0 kr vs _ _ _ _ _ _ _ _=_
   unfold F.zm.L2_slices_IndexFunc_api_Dec_api_Dec.step F.zbm
   rw [zd (by omega),zm,h2]
   simp only [za,zu0 n (by omega) hx,List.all_cons]
   by_cases h:decC x=0
   · rw [h,zh (by omega),ih (k+1) m h3 (by simp at hm; omega)]; rfl
   · rw [beq_eq_false_iff_ne.2 h]
     simp [hr]
theorem zrg (n:Nat) (hn:200000≤n) (k0:List UInt8→Int→List DecL→Int→List TagL→Int→Option Bool) (kr:Int→List UInt8→Int→List DecL→Int→List TagL→Int→Option Bool) (h0:∀ a b c d e f,k0 a b c d e f=some true) (hr:∀ i a b c d e f,0≤i→kr i a b c d e f=some false) (vs:List TagL) (hs:vs.length≤10000) (hok:∀ d∈vs,TagLOK d) (b0:List UInt8) (b1:Int) (b2:List DecL) (b3:Int) (b4:List TagL) (b5:Int):∀ (r:List TagL) (k m:Nat),vs.drop k=r→r.length<m →
 F.zq.L2_slices_IndexFunc_api_Tag_api_Tag n k0 kr m vs (vs.length:Int) (k:Int) b0 b1 b2 b3 b4 b5=some (r.all tagGood):=by
 intro r
 induction r with
 | nil =>
  intro k m hk hm
  have:=zl hk
  cases m with
  | zero=>simp at hm
  | succ m =>
   show F.zq.L2_slices_IndexFunc_api_Tag_api_Tag.step n _ k0 kr vs _ _ _ _ _ _ _ _=_
   unfold F.zq.L2_slices_IndexFunc_api_Tag_api_Tag.step
   rw [ze (by omega),h0]
   rfl
 | cons x r ih =>
  intro k m hk hm
  obtain ⟨h1,h2,h3⟩:=zk hk
  have hx:TagLOK x:=hok x (List.mem_of_getElem? h2)
  cases m with
  | zero=>simp at hm
  | succ m =>
   show F.zq.L2_slices_IndexFunc_api_Tag_api_Tag.step n (F.zq.L2_slices_IndexFunc_api_Tag_api_Tag n k0 kr m) k0 kr vs _ _ _ _ _ _ _ _=_
   unfold F.zq.L2_slices_IndexFunc_api_Tag_api_Tag.step F.zbr
   rw [zd (by omega),zm,h2]
   simp only [za,zil n hn hx,List.all_cons]
   cases h:tagGood x
   · simp [hr]
   · rw [zh (by omega),ih (k+1) m h3 (by simp at hm; omega)]; rfl
theorem zcc (n:Nat) (x lo hi:Int):F.zba n x lo hi=some (decide (lo≤x)&&decide (x≤hi)):=by
 unfold F.zba
 by_cases h:lo≤x
 · rw [zd (by omega),decide_eq_true h]; rfl
 · rw [ze (by omega),decide_eq_false h]; rfl
theorem zrh (n:Nat) (m:MetD) (h:m.1.length≤10000) (hn:200000≤n):F.zbe n m=some (nameOK m.1):=by
 unfold F.zbe nameOK
 rw [zbh n 1 m.1 1 200 (by omega) (by omega),za,za6]
theorem zri (n:Nat) (m:MetD):F.zbf n m=some (kindB m.2.1):=by
 unfold F.zbf kindB
 rw [zcc]; rfl
theorem zng (n:Nat) (hn:200000≤n) (m:MetD) (hm:MetOK m):F.zm n m=some (valsB m.2.2.1):=by
 unfold F.zm valsB
 have L:=zrf n hn (fun _ _ _ _ _ _=>some true) (fun e _ _ _ _ _ _=>some (!(decide (e≥(0:Int))))) (fun _ _ _ _ _ _=>rfl) (fun i _ _ _ _ _ _ h=>by simp [h]) _ hm.2.1.1 hm.2.1.2 m.1 m.2.1 m.2.2.1 m.2.2.2.1 m.2.2.2.2.1 m.2.2.2.2.2.1 m.2.2.1 0 n rfl (by have:=hm.2.1.1; omega)
 rw [show ((0:Nat):Int)=(0:Int) from rfl] at L
 rw [zcc,za,L]
 have e1:decide ((1:Int)≤(m.2.2.1.length:Int))=decide (1≤m.2.2.1.length):=by apply decide_eq_decide.2; omega
 have e2:decide ((m.2.2.1.length:Int)≤64)=decide (m.2.2.1.length≤64):=by apply decide_eq_decide.2; omega
 rw [e1,e2]
 cases decide (1≤m.2.2.1.length)<;>cases decide (m.2.2.1.length≤64)<;>rfl
theorem zrj (n:Nat) (m:MetD):F.zbg n m=some (rateB m.2.1 m.2.2.2.1):=by
 unfold F.zbg rateB
 rw [zcc,za]
 cases decide ((1:Int)≤m.2.2.2.1)<;>cases decide (m.2.2.2.1≤1000000)<;>cases (m.2.1==2)<;>rfl
theorem zrk (n:Nat) (hn:200000≤n) (m:MetD) (hm:MetOK m):F.zq n m=some (tagsB m.2.2.2.2.1):=by
 unfold F.zq tagsB
 have L:=zrg n hn (fun _ _ _ _ _ _=>some true) (fun e _ _ _ _ _ _=>some (!(decide (e≥(0:Int))))) (fun _ _ _ _ _ _=>rfl) (fun i _ _ _ _ _ _ h=>by simp [h]) _ hm.2.2.1 hm.2.2.2 m.1 m.2.1 m.2.2.1 m.2.2.2.1 m.2.2.2.2.1 m.2.2.2.2.2.1 m.2.2.2.2.1 0 n rfl (by have:=hm.2.2.1; omega)
 rw [show ((0:Nat):Int)=(0:Int) from rfl] at L
 rw [L]
 have e2:decide ((m.2.2.2.2.1.length:Int)≤32)=decide (m.2.2.2.2.1.length≤32):=by apply decide_eq_decide.2; omega
 rw [e2]
 cases decide (m.2.2.2.2.1.length≤32)<;>rfl
theorem zrl (n:Nat) (m:MetD):F.zbh n m=some (timeB m.2.2.2.2.2.1):=by
 unfold F.zbh timeB
 rw [zcc]; rfl
theorem zgm (n:Nat) (hn:200000≤n) (m:MetD) (hm:MetOK m):F.zv n m=some (chkM m):=by
 unfold F.zv
 obtain ⟨q,hq⟩:∃ q,n=q+7:=⟨n - 7,by omega⟩
 have l1:=zrh n m hm.1 hn
 have l2:=zri n m
 have l3:=zng n hn m hm
 have l4:=zrj n m
 have l5:=zrk n hn m hm
 have l6:=zrl n m
 obtain ⟨nm,k,vs,r,ts,t,_⟩:=m
 simp only at l1 l2 l3 l4 l5 l6
 have key:∀ (X:Type) (k0:(List UInt8)→Int→(List DecL)→Int→(List TagL)→Int→(List UInt8)→Int→(List DecL)→Int→(List TagL)→Int→Option X) (kr:Int→(List UInt8)→Int→(List DecL)→Int→(List TagL)→Int→(List UInt8)→Int→(List DecL)→Int→(List TagL)→Int→Option X),
  F.zv.L3 n k0 kr (q+7) ((((nm,k,vs,r,ts,t,()),()),(())),(15:Int),(((nm,k,vs,r,ts,t,()),()),(())),(16:Int),(((nm,k,vs,r,ts,t,()),()),(())),(17:Int),(((nm,k,vs,r,ts,t,()),()),(())),(18:Int),(((nm,k,vs,r,ts,t,()),()),(())),(19:Int),(((nm,k,vs,r,ts,t,()),()),(())),(20:Int),()) 0 nm k vs r ts t nm k vs r ts t =
  (bif !nameOK nm then kr 15 nm k vs r ts t nm k vs r ts t else bif !kindB k then kr 16 nm k vs r ts t nm k vs r ts t else bif !valsB vs then kr 17 nm k vs r ts t nm k vs r ts t else bif !rateB k r then kr 18 nm k vs r ts t nm k vs r ts t
   else bif !tagsB ts then kr 19 nm k vs r ts t nm k vs r ts t else bif !timeB t then kr 20 nm k vs r ts t nm k vs r ts t else k0 nm k vs r ts t nm k vs r ts t):=by
  intro X k0 kr
  refine Eq.trans (b:=(F.zbe n (nm,k,vs,r,ts,t,())).bind fun y=>bif !y then kr 15 nm k vs r ts t nm k vs r ts t else
   (F.zbf n (nm,k,vs,r,ts,t,())).bind fun y=>bif !y then kr 16 nm k vs r ts t nm k vs r ts t else
   (F.zm n (nm,k,vs,r,ts,t,())).bind fun y=>bif !y then kr 17 nm k vs r ts t nm k vs r ts t else
   (F.zbg n (nm,k,vs,r,ts,t,())).bind fun y=>bif !y then kr 18 nm k vs r ts t nm k vs r ts t else
   (F.zq n (nm,k,vs,r,ts,t,())).bind fun y=>bif !y then kr 19 nm k vs r ts t nm k vs r ts t else
   (F.zbh n (nm,k,vs,r,ts,t,())).bind fun y=>bif !y then kr 20 nm k vs r ts t nm k vs r ts t else k0 nm k vs r ts t nm k vs r ts t) (by kernel_rfl) ?_
  rw [l1,l2,l3,l4,l5,l6]
  rfl
 rw [← hq] at key
 rw [key]
 unfold chkM
 simp only [zlo]
end Go.AM
