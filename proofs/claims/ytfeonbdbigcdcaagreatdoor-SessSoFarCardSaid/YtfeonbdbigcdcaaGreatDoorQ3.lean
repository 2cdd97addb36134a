/- Part 3 of a proof by the abstract machine. -/
import Derived.Test.YtfeonbdbigcdcaaGreatDoorQ2
import Derived.Scope
import Derived.Carry
import Derived.SizedLaws
import Derived.OpenShut
import Derived.ProofKit
import Derived.Lib.Join
import Derived.Lib.SlFresh
import Derived.Lib.SlParts
import Derived.Lib.Bytealg
import Derived.Lib.AtoiAll
import Derived.Lib.LaidTab
import Derived.Lib.Itoa
import Derived.Lib.ItoaLen
import Derived.Lib.Repeat
import Derived.Lib.AppendIntMem
import Derived.Sort.Grow
import Derived.Lib.TrimByte
import Derived.Lib.Strings
import Derived.Lib.ConvBytes
import Derived.Lib.AtoiAllMem
import Derived.MapKept
import Derived.Lib.SplitLaws
import Derived.Lib.IndexBytes
import Derived.Lib.LaidU8
import Derived.Deep.DeepHandedRow
import Derived.Deep.DeepWitnessRowRef
import Derived.KernelRfl
import Derived.Shelf.SlSortCmp.WholeK
import Derived.Lib.Builder
import Derived.IntWalk
import Derived.Lib.LaidIn
set_option linter.unusedVariables false
set_option linter.unusedSimpArgs false
namespace Go.AM
open Go.RowKit
section
variable {P:Program} {w:World} {G:GS}
theorem zdh {G1:GS} (hD:G1.D=G.D) (hb:G1.bx=G.bx) (ht:G1.tk=G.tk) (hl:G1.lp=G.lp) (hv:G1.bv=G.bv) {v:Value} {a:AV} (h:RepV w G v a):RepV w G1 v a:=by
 induction h with
 | any v=>exact .any v
 | bool b=>exact .bool b
 | int k n h=>exact .int k n h
 | str s l h hl=>exact .str s l h hl
 | sl τ l c v h hc =>
  rw [← hD] at h
  cases c with
  | full=>exact .sl _ _ _ _ h hc
  | unk=>exact .sl _ _ _ _ h trivial
  | fresh=>exact .sl _ _ _ _ h trivial
  | own t =>
   obtain ⟨o,h1,h2⟩:=hc
   exact .sl _ _ _ _ h ⟨o,by rw [ht]; exact h1,h2⟩
 | nils=>exact .nils
 | agg vs cs hl _ ih=>exact .agg vs _ hl ih
 | tup vs cs hl _ ih=>exact .tup vs _ hl ih
 | nilp=>exact .nilp
 | ref r off b h h0=>exact .ref r off b (by rw [hb]; exact h) (by rw [hv]; exact h0)
 | ms r v n τ x h0 hs h=>exact .ms r v n τ x h0 hs (by rw [hb,hv]; exact h)
 | ep r v i off τ x h0 hs h=>exact .ep r v i off τ x h0 hs (by rw [hb,hv]; exact h)
 | imm b o us cs hl hm _ ih=>exact .imm b o us _ hl (by rw [hD]; exact hm) ih
 | imms n b o c us cs h0 hc hl hm _ ih=>exact .imms n b o c us _ h0 hc hl (by rw [hD]; exact hm) ih
 | bcell r T b v h h0 hp=>exact .bcell r T b v (by rw [hb]; exact h) (by rw [hv]; exact h0) hp
 | mref r b h h0=>exact .mref r b (by rw [hb]; exact h) (by rw [hv]; exact h0)
 | nilfn=>exact .nilfn
 | fn f x y a b hx _ hy _ i1 i2=>exact .fn f x y _ _ hx i1 hy i2
 | yield j p h=>exact .yield j p (by rw [hl]; exact h)
 | err0=>exact .err0
 | err1 t x=>exact .err1 t x
def dfMark (d:Nat):Deferred:={ target:=.collected d,args:=#[] }
def GS.nd (G:GS):GS:={ G with df:=[] }
theorem zor {v:Value} {a:AV} (h:RepV w G v a):RepV w G.nd v a:=zdh (G:=G) (G1:=G.nd) rfl rfl rfl rfl rfl h
theorem zh9 {v:Value} {a:AV} (h:RepV w G.nd v a):RepV w G v a:=zdh (G:=G.nd) (G1:=G) rfl rfl rfl rfl rfl h
theorem Ext.nd {B:Base} {G G':GS} (h:Ext B G G'):Ext B G.nd G'.nd:=⟨h.D,h.bx,h.tk,h.lp,rfl⟩
theorem zto {N:Nat} {tmps:Array Value} {e:Env} (h:EnvR w G N tmps e):EnvR w G.nd N tmps e:=⟨h.size,fun t=>zor (h.rep t)⟩
theorem zm5 {N:Nat} {tmps:Array Value} {e:Env} (h:EnvR w G.nd N tmps e):EnvR w G N tmps e:=⟨h.size,fun t=>zh9 (h.rep t)⟩
theorem zhk {w w':World} {G G':GS} {N:Nat} {tmps:Array Value} {e:Env} (h:EnvR w G N tmps e) (hx:Ext G.base G.nd G'.nd) (hk:Keep G.D w w'):EnvR w' G' N tmps e:=
 zm5 ((zto h).mono (G:=G.nd) (G':=G'.nd) hx hk)
structure Rel (B0:Nat) (w0:Wd) (N:Nat) (G0:GS) (wb:World) (ρ:Option Nat) (a:Act) (w:World) (e:Env) (h:H) (G:GS):Prop where
 env:EnvR w G N a.tmps e
 st:St B0 w0 G h w
 ext:Ext G0.base G0.nd G.nd
 keep:Keep G0.D wb w
 dfs:∃ ds,a.defers=ds.map dfMark∧G.df=ds++G0.df∧(ρ≠none→ds=[])
structure KsOK {X:Type} (B0:Nat) (w0:Wd) (N:Nat) (G0:GS) (wb:World) (ρ:Option Nat) (ks:Ks X) (r:X) (Q:Exit→Act→World→Prop):Prop where
 nxt:∀ a w e h G,Rel B0 w0 N G0 wb ρ a w e h G→ks.nxt e h=some r→Q .normal a w
 ex:∀ i a w e h G,i<PAN→Rel B0 w0 N G0 wb ρ a w e h G→ks.ex i e h=some r→Q (.exit i) a w
 ret:∀ a w e h G,Rel B0 w0 N G0 wb ρ a w e h G→ks.ret e h=some r→Q .ret a w
 pan:∀ T q b a w e h G,q<PAN→Rel B0 w0 N G0 wb ρ a w e h G→(G0.bx[q]? = some (some b)∨G0.bx[q]? = some none)→ks.ex (PAN*(T+1)+q) e h=some r→Q (.panic (stopE T (.pointer (some ⟨b,0,none⟩)))) a w
section
variable {B0:Nat} {w0:Wd} {N:Nat} {G0:GS} {wb:World} {ρ:Option Nat}
theorem Rel.base {a:Act} {w:World} {e:Env} {h:H} {G:GS} (s:Rel B0 w0 N G0 wb ρ a w e h G):G0.base.le G.base:=zad (G0:=G0.nd) (G:=G.nd) s.ext
theorem Rel.step {a:Act} {w w':World} {e:Env} {h h':H} {G G':GS} (s:Rel B0 w0 N G0 wb ρ a w e h G) (hx:Ext G.base G G') (hk:Keep G.D w w') (st:St B0 w0 G' h' w'):Rel B0 w0 N G0 wb ρ a w' e h' G':=
 ⟨s.env.mono hx hk,st,s.ext.trans (hx.nd.mono s.base),s.keep.trans s.ext.D hk,by
  obtain ⟨ds,h1,h2,h3⟩:=s.dfs
  exact ⟨ds,h1,by rw [hx.df]; exact h2,h3⟩⟩
theorem Rel.put {a:Act} {w:World} {e e':Env} {h:H} {G:GS} (s:Rel B0 w0 N G0 wb ρ a w e h G) {d:Option Nat} {v:Value} {av:AV} (hv:RepV w G v av) {X:Type} {k:Env→Option X} {r:X} (hk:put N e d av k=some r) :
 ∃ e',Rel B0 w0 N G0 wb ρ (a.put d v) w e' h G∧k e'=some r:=by
 cases d with
 | none=>exact ⟨e,s,hk⟩
 | some d =>
  obtain ⟨hd,hk⟩:=zb hk
  simp only [nblt] at hd
  exact ⟨_,⟨s.env.put hd hv,s.st,s.ext,s.keep,s.dfs⟩,hk⟩
theorem Rel.fit {a:Act} {w:World} {e:Env} {h:H} {G:GS} (s:Rel B0 w0 N G0 wb ρ a w e h G) {sh:Shape} {Y:Ys} {x:sh.den} (hf:sh.fit G0.base Y e h=some x) :
 ∃ G',Rel B0 w0 N G0 wb ρ a w (sh.e x) (sh.h x) G'∧sh.y x=Y:=by
 unfold Shape.fit at hf
 split at hf
 · rename_i e1 h1 hn
   have hm:sh.m≤h.bx.length:=by
    unfold normO at hn
    have:=(zb hn).1
    simp only [Bool.and_eq_true,nble] at this
    omega
   obtain ⟨G',st,he,hx⟩:=zlf s.st s.env.size (zl5 s.env sh.env) (by rw [zl6,zbc]; simp; omega) (fun r cs ob b hr hcs hb hh=>by
    obtain ⟨ds,hds,hor⟩:=zhf _ _ _ _ hcs
    rw [zbc,List.getElem?_take_of_lt hr] at hds
    obtain ⟨_,ob',hh',hrep⟩:=s.st.box r b ds hb hds
    rw [hh] at hh'
    obtain rfl:=Option.some.inj hh'
    rcases hor with rfl | ⟨hir,sv,rfl⟩
    · exact hrep
    · obtain ⟨vs,t,rfl,hv0,hrl,hty⟩:=hrep.list hir
      have:=zcw sv ds _ hrl
      exact .cells _ _ _ (.box _ _ this.noRow hv0 this) fun T hT=>hty T (zva hT)) (fun r cs hr hcs hb=>by
    obtain ⟨ds,hds,hor⟩:=zhf _ _ _ _ hcs
    rw [zbc,List.getElem?_take_of_lt hr] at hds
    have hN:=s.st.virt r ds hb hds
    rcases hor with rfl | ⟨hir,sv,rfl⟩
    · exact hN
    · rcases hN with ⟨v,τ,rfl,_⟩ | ⟨rfl,_⟩
      · cases hir
      · cases hir) hn
   obtain ⟨d1,d2,d3⟩:=Shape.dec_enc hf
   refine ⟨G',⟨by rw [d1]; exact he,by rw [d2]; exact st,s.ext.trans hx.nd,s.keep,?_⟩,d3⟩
   obtain ⟨ds,h1,h2,h3⟩:=s.dfs
   exact ⟨ds,h1,by rw [hx.df]; exact h2,h3⟩
 · cases hf
theorem YOK.go {X:Type} {cx:Cx X} {Y:Ys} {G G':GS} {w w':World} (h:YOK cx Y G w) (hx:Ext G.base G.nd G'.nd) (hk:Keep G.D w w'):YOK cx Y G' w':=fun j hd hl=>by
 obtain ⟨p,h1,N,lv,ps,aS,b,h2,h3,h4,h5,h6⟩:=h j hd hl
 exact ⟨p,(hx.lp j (List.getElem?_eq_some_iff.1 h1).1).trans h1,N,lv,ps,aS,b,h2,h3,h4,h5,zhk h6 hx hk⟩
theorem zf5 {X:Type} {cx:Cx X} {O:Open X} {Y:Ys} (hT:TabOK P cx.tab) (hC:(∀ g orc,cx.C g=some orc→OrcOK P (Below B0 w0.w) g orc)∧∀ g p,cx.pr g=some p→PrOK P (Below B0 w0.w) g p) (hO:OpenOK P B0 w0 cx O) (hY:YOK cx Y G0 wb) {a:Act} {w:World} {e:Env} {h:H} {G:GS} (s:Rel B0 w0 N G0 wb ρ a w e h G) {o:Oper}
 {k:AV→H→Option X} {r:X} (hk:opX cx O Y o e h k=some r) {next:Act→World→Prop} {Q:Exit→Act→World→Prop} (hn:∀ v w',Ends B0 w0 G w k r v w'→next (a.put o.dst v) w'):o.wpIn (FW ρ) 0 P a w next Q:=by
 refine ⟨fun f _=>trivial,?_⟩
 have hnd:∀ c,o.op ≠ .defer c:=fun c hc=>by
  unfold opX at hk
  rw [zle hc,cond_false] at hk
  unfold opA at hk
  rw [hc] at hk
  simp at hk
 rw [Oper.semAt_eq _ _ _ hnd]
 by_cases hcall:∃ c f,o.op = .call c∧c.callee = .value f
 · obtain ⟨c,f,hc,hf⟩:=hcall
   have hk':callF cx O Y (ev e f) (evs cx e c.argTypes.toList c.args.toList) h k=some r:=by
    unfold opX at hk
    rw [zmz hc hf,cond_false] at hk
    unfold opA at hk
    rw [hc] at hk
    simp only [hf] at hk
    exact hk
   have hargs:RepL w G (c.args.map a.eval).toList (evs cx e c.argTypes.toList c.args.toList):=by rw [Array.toList_map]; exact zcu cx s.env _ _
   unfold callF at hk'
   cases hnf:needF cx (ev e f) (evs cx e c.argTypes.toList c.args.toList) with
   | false =>
    rw [hnf,cond_false] at hk'
    exact zfk hC hO s.st (hY.go s.ext s.keep) hc hf (s.env.ev f) hargs hk' hn
   | true =>
    rw [hnf,cond_true] at hk'
    obtain ⟨aS,G',h',e1,s1,r1,_,hk2⟩:=zch _ _ _ _ _ _ s.st hargs hk'
    refine zfk hC hO s1 ((hY.go s.ext s.keep).go e1.nd (Keep.refl _ _)) hc hf ((s.env.ev f).mono e1 (Keep.refl _ _)) r1 hk2 fun v w' hE=>hn v w' ?_
    obtain ⟨av,G2,h2,hx,hkp,st,hv,hk3⟩:=hE
    exact ⟨av,G2,h2,e1.trans (hx.mono (zad e1)),fun b o hd=>hkp b o (e1.D b o hd),st,hv,hk3⟩
 · obtain ⟨v,w',hres,hE⟩:=zqv hT s.st s.env o (fun c f hc hf=>hcall ⟨c,f,hc,hf⟩) hk
   rcases hres with hres | ⟨hres,rfl⟩
   · rw [hres,Oper.uponIn_value]; exact hn v w' hE
   · rw [hres,Oper.uponIn_skip]; exact hn _ w' hE
theorem zen {all:Array Oper} {j d:Nat} (hd:dstOf all.toList j=some d) {b:Bool} {tmps:Array Value} {e:Env} (he:EnvR w G N tmps e) (hb:get e d = .bool b):yielded all tmps j=some b∧d<N∧tmps.getD d undef = .bool b:=by
 have h1:=he.rep d
 rw [hb] at h1
 have h1:=zah h1
 have hdN:d<tmps.size:=by
  rcases Nat.lt_or_ge d tmps.size with hl | hg
  · exact hl
  · exfalso
    have:tmps.getD d undef=undef:=by simp [Array.getD,Nat.not_lt.2 hg]
    rw [this] at h1
    cases h1
 have hsome:tmps[d]? = some (.bool b):=by
  rw [Array.getElem?_eq_getElem hdN]
  have:tmps.getD d undef=tmps[d]:=by simp [Array.getD,hdN]
  rw [← this,h1]
 refine ⟨?_,by rw [← he.size]; exact hdN,h1⟩
 unfold dstOf at hd
 rw [zl] at hd
 split at hd
 · rename_i o ho
   have ho':all[j]? = some o:=by simpa using ho
   simp only [yielded,ho',Option.bind_some,hd,hsome]
 · cases hd
theorem zia {all:Array Oper} {j d:Nat} (hd:dstOf all.toList j=some d) {vs:List AV} {tmps:Array Value} {e:Env} (he:EnvR w G N tmps e) (hb:get e d = .tup vs):yielded all tmps j=none:=by
 have h1:=he.rep d
 rw [hb] at h1
 unfold dstOf at hd
 rw [zl] at hd
 split at hd
 · rename_i o ho
   have ho':all[j]? = some o:=by simpa using ho
   simp only [yielded,ho',Option.bind_some,hd]
   cases ht:tmps[d]? with
   | none=>rfl
   | some v =>
    have hv:tmps.getD d undef=v:=by rw [Array.getD_eq_getD_getElem?,ht]; rfl
    rw [hv] at h1
    cases h1
    rfl
 · cases hd
theorem Rel.refine {a:Act} {w:World} {e:Env} {h:H} {G:GS} (s:Rel B0 w0 N G0 wb ρ a w e h G) {d:Nat} {b:Bool} (hd:d<N) (hv:a.tmps.getD d undef = .bool b):Rel B0 w0 N G0 wb ρ a w ((d,.bool b)::e) h G:=by
 refine ⟨⟨s.env.size,fun t => ?_⟩,s.st,s.ext,s.keep,s.dfs⟩
 rw [zc9]
 split
 · rename_i h; subst h; rw [hv]; exact .bool b
 · exact s.env.rep t
theorem zm6 {X:Type} {cx:Cx X} (hC:(∀ g orc,cx.C g=some orc→OrcOK P (Below B0 w0.w) g orc)∧∀ g p,cx.pr g=some p→PrOK P (Below B0 w0.w) g p) {a:Act} {w:World} {e:Env} {h:H} {G:GS} (s:Rel B0 w0 N G0 wb ρ a w e h G) {o:Oper} {x:AV} {T:Nat} (hm:mustOf cx o e=some (x,T))
 {pn:Nat→Env→H→Option X} {kk:Option X} {r:X} (hk:mustA x T h (fun i=>pn i e h) kk=some r) {next:Act→World→Prop} {Q:Exit→Act→World→Prop}
 (hp:∀ q p w e h G,q<PAN→Rel B0 w0 N G0 wb ρ a w e h G→RepV w G p (.ref q 0)→pn (PAN*(T+1)+q) e h=some r→Q (.panic (stopE T p)) a w) (hn:∀ {w':World},Rel B0 w0 N G0 wb ρ a w' e h G→kk=some r→next (a.put o.dst (.tuple #[])) w'):o.wpIn (FW ρ) 0 P a w next Q:=by
 have hdp:(FW ρ).depth.isSome=true→1≤0:=by intro h; cases h
 unfold mustOf at hm
 split at hm
 · rename_i c hc
   split at hm
   · rename_i f y hf hargs
     split at hm
     · rename_i g hg
       split at hm
       · rename_i T' hpr
         obtain ⟨rfl,rfl⟩:=Prod.mk.inj (Option.some.inj hm)
         refine ⟨fun f _=>trivial,?_⟩
         rw [Oper.semAt_eq _ _ _ (fun c' hc'=>by rw [hc] at hc'; cases hc')]
         unfold mustA at hk
         split at hk
         · rename_i q hy
           split at hk
           · rename_i b01 b02 b03 b1 cc ii tt hbx
             rw [zl] at hbx
             obtain ⟨hqP,hk⟩:=zb hk
             have hyr:=s.env.ev y
             rw [hy] at hyr
             have hfr:=s.env.ev f
             rw [hg] at hfr
             have hfv:a.eval f = .func (.func g) #[] #[]:=by
              generalize a.eval f=fv at hfr
              cases hfr with
              | fn _ x y _ _ hx h1 hy h2 =>
               have e1:x=#[]:=Array.eq_empty_of_size_eq_zero (by simpa using hx)
               have e2:y=#[]:=Array.eq_empty_of_size_eq_zero (by simpa using hy)
               rw [e1,e2]
             have hav:c.args.map a.eval=#[a.eval y]:=Array.ext' (by simp [hargs])
             have hrun:(execOp a.eval o).run P w=(callFunc g #[a.eval y]).run P w:=by
              have h1:(execOp a.eval o).run P w=(do let d ← Deferred.ofValue (a.eval f) (c.args.map a.eval); invoke d.target d.args:Sem Next).run P w:=by
               simp only [execOp,hc,resolve,hf]
              rw [h1,hfv,hav]
              simp [Deferred.ofValue,invoke]
             rw [hrun]
             generalize hpv:a.eval y=pv at hyr
             have hyr0:=hyr
             cases hyr with
             | ref _ _ b hb h0 =>
              obtain ⟨hB,ob,hh,hR⟩:=s.st.box q b _ hb hbx
              obtain ⟨vs,t,rfl,_,hL,_⟩:=hR.list rfl
              have hcon:=hC.2 g _ hpr
              obtain ⟨v0,v1,hvs⟩:∃ v0 v1,vs.toList=[v0,v1,.int .i64 cc,.int .i64 ii,.bool tt]:=by
               match hvl:vs.toList,hL with
               | [u0,u1,u2,u3,u4],hL =>
                have g2:=hL.2 2 u2 _ rfl rfl
                have g3:=hL.2 3 u3 _ rfl rfl
                have g4:=hL.2 4 u4 _ rfl rfl
                obtain ⟨e2,_⟩:=zj g2
                obtain ⟨e3,_⟩:=zj g3
                have e4:=zah g4
                exact ⟨u0,u1,by rw [e2,e3,e4]⟩
               | [],hL=>have:=hL.1; simp at this
               | [_],hL=>have:=hL.1; simp at this
               | [_,_],hL=>have:=hL.1; simp at this
               | [_,_,_],hL=>have:=hL.1; simp at this
               | [_,_,_,_],hL=>have:=hL.1; simp at this
               | _::_::_::_::_::_::_,hL=>have:=hL.1; simp at this
              obtain ⟨h1,h2⟩:=hcon w b vs t v0 v1 cc ii tt s.st.below hh hvs
              rw [h1,Oper.uponIn_enter]
              refine ⟨hdp,CallsIn.mono (F:=FW ρ) (n:=0) h2 ?_⟩
              rintro e' w' ⟨rfl,rfl⟩
              cases hcond:(tt && !(cc==0&&ii==0)) with
              | true =>
               rw [hcond,cond_true] at hk
               rw [if_pos rfl]
               exact hp q _ _ _ _ _ (nblt.1 hqP) s hyr0 hk
              | false =>
               rw [hcond,cond_false] at hk
               rw [if_neg (by decide)]
               exact hn s hk
           · cases hk
         · cases hk
       · cases hm
     · cases hm
   · cases hm
 · cases hm
theorem zgs {X : Type} {cx:Cx X} {O:Open X} {Y:Ys} (hT:TabOK P cx.tab) (hC:(∀ g orc,cx.C g=some orc→OrcOK P (Below B0 w0.w) g orc)∧∀ g p,cx.pr g=some p→PrOK P (Below B0 w0.w) g p) (hO:OpenOK P B0 w0 cx O) (hY:YOK cx Y G0 wb) (all:Array Oper) {k:Env→H→Option X} {pn:Nat→Env→H→Option X} {r:X} {Q:Exit→Act→World→Prop}
 (hq:∀ a w e h G,Rel B0 w0 N G0 wb ρ a w e h G→k e h=some r→Q .normal a w)
 (hp:∀ T q p a w e h G,q<PAN→Rel B0 w0 N G0 wb ρ a w e h G→RepV w G p (.ref q 0)→pn (PAN*(T+1)+q) e h=some r→Q (.panic (stopE T p)) a w):∀ (os:List Oper) (i:Nat),os=all.toList.drop i→∀ (a:Act) (w:World) (e:Env) (h:H) (G:GS),Rel B0 w0 N G0 wb ρ a w e h G→opsA cx O N Y all.toList pn os e h k=some r →
  wpOpsIn (FW ρ) 0 P all Q (List.range' i os.length) a w
 | [],i,_,a,w,e,h,G,s,hk=>by
  simp only [opsA] at hk
  exact hq a w e h G s hk
 | o :: os,i,hos,a,w,e,h,G,s,hk=>by
  have hi:all[i]? = some o:=by
   have:(all.toList.drop i)[0]? = some o:=by rw [← hos]; rfl
   simpa using this
  have hos':os=all.toList.drop (i+1):=by
   rw [← List.drop_drop,← hos]; rfl
  rw [List.length_cons,List.range'_succ]
  simp only [wpOpsIn,hi]
  have ih:=fun a w e h G s hk=>zgs hT hC hO hY all hq hp os (i+1) hos' a w e h G s hk
  have go:∀ e,Rel B0 w0 N G0 wb ρ a w e h G→(opX cx O Y o e h fun v h=>put N e o.dst v fun e=>opsA cx O N Y all.toList pn os e h k)=some r→o.wpIn (FW ρ) 0 P a w (wpOpsIn (FW ρ) 0 P all Q (List.range' (i+1) os.length)) Q:=by
   intro e s hk
   refine zf5 hT hC hO hY s hk fun v w' hE => ?_
   obtain ⟨av,G',h',hx,hkp,st,hv,hk'⟩:=hE
   obtain ⟨e',s',hk''⟩:=(s.step hx hkp st).put (e':=e) hv hk'
   exact ih _ _ _ _ _ s' hk''
  simp only [opsA] at hk
  split at hk
  · rename_i hg
    rw [if_pos (by simp [Region.wanted,hg])]
    split at hk
    · rename_i x T hmo
      exact zm6 hC s hmo hk (fun q p w e h G=>hp T q p a w e h G) (fun s' hk'=>by
       obtain ⟨e',s'',hk''⟩:=s'.put (e':=e) (v:=.tuple #[]) (.tup #[] [] rfl (fun i v c h=>by simp at h)) hk'
       exact ih _ _ _ _ _ s'' hk'')
    · exact go e s hk
  · rename_i j wnt hg
    split at hk
    · rename_i d hd
      split at hk
      · rename_i b hb
        obtain ⟨hy,hdN,hv⟩:=zen hd s.env hb
        have run:b=wnt→(opX cx O Y o ((d,.bool wnt)::e) h fun v h=>put N ((d,.bool wnt)::e) o.dst v fun e=>opsA cx O N Y all.toList pn os e h k)=some r →
         (if Region.wanted o (yielded all a.tmps)=true then o.wpIn (FW ρ) 0 P a w (wpOpsIn (FW ρ) 0 P all Q (List.range' (i+1) os.length)) Q
          else (∀ f,o.about P w a.eval=some f→(FW ρ).fn f)∧wpOpsIn (FW ρ) 0 P all Q (List.range' (i+1) os.length) (a.put o.dst undef) w):=by
         intro hbw hk
         subst hbw
         rw [if_pos (by simp [Region.wanted,hg,hy])]
         exact go _ (s.refine hdN hv) hk
        have pass:b = !wnt→(put N ((d,.bool (!wnt))::e) o.dst (.tup []) fun e=>opsA cx O N Y all.toList pn os e h k)=some r →
         (if Region.wanted o (yielded all a.tmps)=true then o.wpIn (FW ρ) 0 P a w (wpOpsIn (FW ρ) 0 P all Q (List.range' (i+1) os.length)) Q
          else (∀ f,o.about P w a.eval=some f→(FW ρ).fn f)∧wpOpsIn (FW ρ) 0 P all Q (List.range' (i+1) os.length) (a.put o.dst undef) w):=by
         intro hbw hk
         rw [if_neg (by rw [Region.wanted,hg]; simp only [hy,hbw]; cases wnt<;>simp)]
         refine ⟨fun _ _=>trivial,?_⟩
         obtain ⟨e',s',hk''⟩:=(s.refine hdN (b:=!wnt) (by rw [hv,hbw])).put (e':=e) (v:=undef) (zap _ _) hk
         exact ih _ _ _ _ _ s' hk''
        cases wnt<;>cases b<;>simp only [cond_true,cond_false] at hk
        · exact run rfl hk
        · exact pass rfl hk
        · exact pass rfl hk
        · exact run rfl hk
      · rename_i vs hb
        have hy:=zia hd s.env hb
        rw [if_neg (by rw [Region.wanted,hg]; simp [hy])]
        refine ⟨fun _ _=>trivial,?_⟩
        obtain ⟨e',s',hk''⟩:=s.put (e':=e) (v:=undef) (zap _ _) hk
        exact ih _ _ _ _ _ s' hk''
      · cases hk
    · cases hk
end
end
end Go.AM
set_option linter.unusedVariables false
set_option linter.unusedSimpArgs false
namespace Go.AM
open Go.RowKit
section
variable {w:World} {G:GS} {B0:Nat} {w0:Wd} {h:H}
theorem zos {G1:GS} (hD:G1.D=G.D) (hb:G1.bx=G.bx) (ht:G1.tk=G.tk) (hl:G1.lp=G.lp) (hbv:G1.bv=G.bv) {vs:List Value} {cs:List AV} (h:RepL w G vs cs):RepL w G1 vs cs:=⟨h.1,fun i v c hv hc=>zdh hD hb ht hl hbv (h.2 i v c hv hc)⟩
theorem zot {G1:GS} (hD:G1.D=G.D) (hb:G1.bx=G.bx) (ht:G1.tk=G.tk) (hl:G1.lp=G.lp) (hbv:G1.bv=G.bv) {r:Nat} {vs:List Value} {cs:List AV} (h:RepB w G r vs cs):RepB w G1 r vs cs:=by
 cases h with
 | box _ h hv hl2=>exact .box _ _ h (by rw [hbv]; exact hv) (zos hD hb ht hl hbv hl2)
 | row v τ l cap h0 hv hz hc hm hs hl2 h1=>exact .row _ v τ l cap h0 (by rw [hbv]; exact hv) hz hc hm hs (by rw [hD]; exact hl2) h1
theorem zib {G1:GS} (hD:G1.D=G.D) (hb:G1.bx=G.bx) (ht:G1.tk=G.tk) (hl:G1.lp=G.lp) (hbv:G1.bv=G.bv) {r:Nat} {ob:Obj} {cs:List AV} (h:RepO w G r ob cs):RepO w G1 r ob cs:=by
 cases h with
 | cells vs t _ h ht2=>exact .cells vs t _ (zot hD hb ht hl hbv h) ht2
 | mp es c l hv h=>exact .mp es c l (by rw [hbv]; exact hv) h
 | fm l c hv=>exact .fm l c (by rw [hbv]; exact hv)
theorem St.setDf (s:St B0 w0 G h w) {df:List Nat} (h1:∀ d∈df,B0≤d∧w.heap[d]? = some (.deferred (some []))) (h2:df.Nodup):St B0 w0 { G with df:=df } h w:=
 { s with
   box:=fun r b cs hb hc=>by
    obtain ⟨hB,ob,hh,hr⟩:=s.box r b cs hb hc
    exact ⟨hB,ob,hh,zib (G:=G) (G1:={ G with df:=df }) rfl rfl rfl rfl rfl hr⟩
   tok:=fun t g ht=>s.tok t g ht
   dfr:=h1
   dfn:=h2 }
theorem St.newDf (s:St B0 w0 G h w):St B0 w0 { G with df:=w.heap.size::G.df } h (w.alloc (.deferred (some [])))∧Keep G.D w (w.alloc (.deferred (some []))):=by
 have hg:w.grownBy (w.alloc (.deferred (some []))) none:=World.grownBy_alloc w _ none
 have s':=s.grown0 hg
 refine ⟨s'.setDf (fun d hd => ?_) (List.nodup_cons.2 ⟨fun hm => ?_,s.dfn⟩),Keep.of_grown hg (fun b o x=>(s.dat b o x).1) (fun _ _ _=>by simp)⟩
 · rcases List.mem_cons.1 hd with rfl | hd
   · exact ⟨s.b0,World.alloc_heap_new w _⟩
   · exact s'.dfr d hd
 · have:=(Array.getElem?_eq_some_iff.1 (s.dfr _ hm).2).1
   omega
theorem St.newLoop (s:St B0 w0 G h w) {rec:Loop} (h1:rec.state = .ready) (h2:rec.pending=none) :
 St B0 w0 { G with lp:=G.lp++[⟨w.heap.size,rec⟩] } { h with lp:=h.lp++[.ready] } (w.alloc (.loop rec))∧Keep G.D w (w.alloc (.loop rec))∧Ext G.base G { G with lp:=G.lp++[⟨w.heap.size,rec⟩] }:=by
 have hg:w.grownBy (w.alloc (.loop rec)) none:=World.grownBy_alloc w _ none
 have s':=s.grown0 hg
 have hx:Ext G.base G { G with lp:=G.lp++[⟨w.heap.size,rec⟩] }:=
  { D := fun _ _ x=>x,bx:=fun _ _ => .inl ⟨rfl,rfl⟩,tk:=(Ext.refl (Base.le_refl _)).tk,df:=rfl
    lp:=fun j hj=>by
     have:j<G.lp.length:=hj
     simp [List.getElem?_append_left this] }
 have hlt:∀ (j:Nat) (p:LpG),G.lp[j]? = some p→p.l<w.heap.size:=fun j p hp=>by
  have hj:j<h.lp.length:=by rw [s.lpl]; exact (List.getElem?_eq_some_iff.1 hp).1
  obtain ⟨_,rec',hr,_⟩:=s.loop j p _ hp (List.getElem?_eq_getElem hj)
  exact (Array.getElem?_eq_some_iff.1 hr).1
 have split:∀ (j:Nat) (p:LpG),(G.lp++[⟨w.heap.size,rec⟩])[j]? = some p→(j<G.lp.length∧G.lp[j]? = some p)∨(j=G.lp.length∧p=⟨w.heap.size,rec⟩):=fun j p hp=>by
  by_cases hj:j<G.lp.length
  · rw [List.getElem?_append_left hj] at hp; exact .inl ⟨hj,hp⟩
  · rw [List.getElem?_append_right (by omega)] at hp
    have e0:j - G.lp.length=0:=by
     have:=(List.getElem?_eq_some_iff.1 hp).1
     simp at this
     omega
    rw [e0] at hp
    simp at hp
    exact .inr ⟨by omega,hp.symm⟩
 refine ⟨?_,Keep.of_grown hg (fun b o x=>(s.dat b o x).1) (fun _ _ _=>by simp),hx⟩
 exact
 { s' with
   box:=fun r b cs hb hc=>by
    obtain ⟨hB,ob,hh,hr⟩:=s'.box r b cs hb hc
    exact ⟨hB,ob,hh,hr.keep hx (Keep.refl _ _) rfl⟩
   tok:=fun t g ht=>s'.tok t g ht
   lpl:=by simp [s.lpl]
   loop:=fun j p st h1' h2'=>by
    rcases split j p h1' with ⟨hj,hp⟩ | ⟨rfl,rfl⟩
    · simp only [List.getElem?_append_left (show j<h.lp.length by rw [s.lpl]; exact hj)] at h2'
      exact s'.loop j p st hp h2'
    · simp only [List.getElem?_append_right (show h.lp.length≤G.lp.length by rw [s.lpl]; omega),s.lpl,Nat.sub_self] at h2'
      simp at h2'
      subst h2'
      exact ⟨s.b0,rec,World.alloc_heap_new w _,⟨rfl,rfl,rfl,rfl,rfl,rfl⟩,h1,h2⟩
   lpi := fun j j' p p' h1' h2' e=>by
    rcases split j p h1' with ⟨hj,hp⟩ | ⟨rfl,rfl⟩<;>rcases split j' p' h2' with ⟨hj',hp'⟩ | ⟨rfl,rfl⟩
    · exact s.lpi j j' p p' hp hp' e
    · have:=hlt j p hp
      simp only at e
      omega
    · have:=hlt j' p' hp'
      simp only at e
      omega
    · rfl }
theorem zlg {b:Nat} {o o':Obj} (hb:w.heap[b]? = some o) (h1:∀ cs t fr,o ≠ .cells cs t fr) (h2:∀ cs t fr,o' ≠ .cells cs t fr) (a:Addr) (ha:∃ u,w.cell? a=some u):(w.putObj b o').cell? a=w.cell? a:=by
 by_cases e:a.block=b
 · exfalso
   obtain ⟨u,hu⟩:=ha
   unfold World.cell? at hu
   rw [e,hb] at hu
   cases o with
   | cells cs t fr=>exact h1 _ _ _ rfl
   | _=>simp at hu
 · exact World.cell?_of_block (w:=w) (World.putObj_heap_other e)
theorem zjv {b:Nat} {o:Obj} (hb:Below B0 w0.w w) (h0:B0≤b):Below B0 w0.w (w.putObj b o):=
 hb.trans ⟨rfl,rfl,rfl,by simp,fun k hk=>World.putObj_heap_other (by omega)⟩
theorem St.putOther (s:St B0 w0 G h w) {b:Nat} {o o':Obj} (h0:B0≤b) (hb:w.heap[b]? = some o) (h1:∀ cs t fr,o ≠ .cells cs t fr) (h2:∀ cs t fr,o' ≠ .cells cs t fr) (h3:∀ es c,o ≠ .map es c) {h':H} {df:List Nat} (hbx:h'.bx=h.bx) (htk:h'.tk=h.tk) (hll:h'.lp.length=h.lp.length)
 (hloop:∀ (j:Nat) (p:LpG) (st:LS),G.lp[j]? = some p→h'.lp[j]? = some st→B0≤p.l∧∃ rec,(w.putObj b o').heap[p.l]? = some (.loop rec)∧sameLoop rec p.st∧LsOK rec st)
 (hdf:∀ d∈df,B0≤d∧(w.putObj b o').heap[d]? = some (.deferred (some []))) (hdn:df.Nodup) :
 St B0 w0 { G with df:=df } h' (w.putObj b o')∧Keep G.D w (w.putObj b o'):=by
 have hk:Keep G.D w (w.putObj b o'):=fun x i hx=>zlg hb h1 h2 _ (s.dat x i hx).1
 have hcs:∀ (x:Nat) (cs:Array Value) (t:TypeId) (fr:Nat×Nat),w.heap[x]? = some (.cells cs t fr)→(w.putObj b o').heap[x]? = some (.cells cs t fr):=fun x cs t fr hx=>by
  have:x≠b:=fun e=>by rw [e,hb] at hx; exact h1 _ _ _ (Option.some.inj hx)
  rw [World.putObj_heap_other this]; exact hx
 have hx:Ext G.base G G:=Ext.refl (Base.le_refl _)
 refine ⟨?_,hk⟩
 exact
 { below:=zjv s.below h0
   b0:=by simpa using s.b0
   bxl:=by rw [hbx]; exact s.bxl
   box := fun r q cs e1 e2=>by
    rw [hbx] at e2
    obtain ⟨hB,ob,hh,hr⟩:=s.box r q cs e1 e2
    have hne:q≠b:=fun e=>by
     rw [e,hb] at hh
     obtain rfl:=Option.some.inj hh
     cases hr with
     | cells=>exact h1 _ _ _ rfl
     | mp=>exact h3 _ _ rfl
     | fm=>exact h3 _ _ rfl
    exact ⟨hB,ob,(World.putObj_heap_other hne).trans hh,zib (G:=G) (G1:={ G with df:=df }) rfl rfl rfl rfl rfl (hr.keep hx hk rfl)⟩
   virt:=fun r cs e1 e2=>s.virt r cs e1 (by rw [hbx] at e2; exact e2)
   inj:=s.inj
   dat:=fun x i hxi=>⟨by
    obtain ⟨u,hu⟩:=(s.dat x i hxi).1
    exact ⟨u,(hk x i hxi).trans hu⟩,(s.dat x i hxi).2⟩
   dat0:=s.dat0
   tkl:=by rw [htk]; exact s.tkl
   tok:=fun t g ht=>by
    obtain ⟨e1,e2⟩:=s.tok t g ht
    refine ⟨e1,fun hl => ?_⟩
    obtain ⟨q,hA,hB,hn,cs,et,fr,hh,hc,hi⟩:=e2 hl
    refine ⟨q,hA,hB,hn,cs,et,fr,hcs _ _ _ _ hh,hc,fun i i1 i2=>⟨(hi i i1 i2).1,?_⟩⟩
    rw [World.frozen?_of_block (w:=w) (by rw [hh]; exact hcs _ _ _ _ hh)]
    exact (hi i i1 i2).2
   tki:=s.tki
   lpl:=by rw [hll]; exact s.lpl
   loop:=hloop
   lpi:=s.lpi
   dfr:=hdf
   dfn:=hdn }
theorem St.setLoop (s:St B0 w0 G h w) {j:Nat} {p:LpG} {rec rec':Loop} {st:LS} (hp:G.lp[j]? = some p) (hrec:w.heap[p.l]? = some (.loop rec)) (hB:B0≤p.l) (hs:sameLoop rec' p.st) (hl:LsOK rec' st) :
 St B0 w0 G (setLp h j st) (w.putObj p.l (.loop rec'))∧Keep G.D w (w.putObj p.l (.loop rec')):=by
 have hlt:p.l<w.heap.size:=(Array.getElem?_eq_some_iff.1 hrec).1
 refine s.putOther (o':=.loop rec') hB hrec (by simp) (by simp) (by simp) (df:=G.df) rfl rfl (by simp [setLp,zk]) (fun j' p' st' h1 h2 => ?_) (fun d hd=>⟨(s.dfr d hd).1,?_⟩) s.dfn
 · simp only [setLp,zk] at h2
   by_cases e:j=j'
   · subst e
     rw [hp] at h1
     obtain rfl:=Option.some.inj h1
     have hj:j<h.lp.length:=by rw [s.lpl]; exact (List.getElem?_eq_some_iff.1 hp).1
     rw [List.getElem?_set_self (by simpa using hj)] at h2
     simp at h2
     subst h2
     exact ⟨hB,rec',World.putObj_heap_same hlt,hs,hl⟩
   · rw [List.getElem?_set_ne e] at h2
     obtain ⟨k1,rec1,k2,k3⟩:=s.loop j' p' st' h1 h2
     refine ⟨k1,rec1,?_,k3⟩
     rw [World.putObj_heap_other (fun ee=>e (s.lpi j j' p p' hp h1 ee.symm))]
     exact k2
 · have:=(s.dfr d hd).2
   rw [World.putObj_heap_other (fun ee=>by rw [ee,hrec] at this; cases this)]
   exact this
theorem St.dropDf (s:St B0 w0 G h w) {d:Nat} {ds:List Nat} (hd:G.df=d::ds):St B0 w0 { G with df:=ds } h (w.putObj d (.deferred none))∧Keep G.D w (w.putObj d (.deferred none)):=by
 have hdn:=s.dfn
 rw [hd] at hdn
 obtain ⟨hn1,hn2⟩:=List.nodup_cons.1 hdn
 obtain ⟨hB,hh⟩:=s.dfr d (by rw [hd]; simp)
 refine s.putOther (o':=.deferred none) hB hh (by simp) (by simp) (by simp) (df:=ds) rfl rfl rfl (fun j p st h1 h2 => ?_) (fun d' hd' => ?_) hn2
 · obtain ⟨k1,rec1,k2,k3⟩:=s.loop j p st h1 h2
   refine ⟨k1,rec1,?_,k3⟩
   rw [World.putObj_heap_other (fun ee=>by rw [ee,hh] at k2; cases k2)]
   exact k2
 · obtain ⟨k1,k2⟩:=s.dfr d' (by rw [hd]; simp [hd'])
   refine ⟨k1,?_⟩
   rw [World.putObj_heap_other (fun ee=>hn1 (by rw [← ee]; exact hd'))]
   exact k2
end
end Go.AM
set_option linter.unusedVariables false
set_option linter.unusedSimpArgs false
namespace Go.AM
open Go.RowKit
def pairOK (conf:List (Nat×Nat)) (j i kj ki:Nat):Bool:=
 if (kj=4∨kj=5)∧(ki=4∨ki=5) then false
 else if (kj=1∨kj=2∨kj=3∨kj=5)∧(ki=1∨ki=2∨ki=3∨ki=5)∧((kj=2∨kj=3)∨(ki=2∨ki=3)) then inConf j i conf else true
def maskOf (M:List Nat) (o:Oper):Nat:=o.after.toList.foldr (fun e s=>bif Region.binds .any e then 2 ^ e.on|||((nth M e.on).getD 0|||s) else s) 0
def masks:List Oper→List Nat→List Nat
 | [],acc=>acc
 | o::os,acc=>masks os (acc++[maskOf acc o])
def edgesOK (M:List Nat) (i:Nat) (o:Oper):Bool:=o.after.toList.all (fun e => !Region.binds .any e||Nat.blt e.on i)&&Nat.beq ((nth M i).getD 0) (maskOf M o)
def relOK (tab:Nat→Option TI) (ops:Array Oper) (conf:List (Nat×Nat)) (M:List Nat) (q p:Nat×Oper):Bool:=
 !Nat.beq q.1 p.1&&(!Nat.testBit ((nth M q.1).getD 0) p.1&&(Nat.testBit ((nth M p.1).getD 0) q.1||(!inConf q.1 q.1 conf&&(q.2.apart ops p.2 &&
  (bif inConf p.1 p.1 conf then Nat.beq (kindD tab q.2) 0||(Nat.beq (kindD tab q.2) 1&&inConf q.1 p.1 conf) else pairOK conf q.1 p.1 (kindD tab q.2) (kindD tab p.2))))))
def pairsB {α:Type} (f:α→α→Bool):List α→Bool
 | []=>true
 | a::l=>l.all (f a)&&pairsB f l
def drawOK (tab:Nat→Option TI) (ops:Array Oper) (conf:List (Nat×Nat)) (M:List Nat):Bool:=
 (number 0 ops.toList).all (fun p=>edgesOK M p.1 p.2&&(ordL conf ops.toList).any fun q=>Nat.beq q.1 p.1)&&(Nat.beq (ordL conf ops.toList).length ops.size&&pairsB (relOK tab ops conf M) (ordL conf ops.toList))
theorem zgt {α:Type} {f:α→α→Bool}:∀ {l:List α},pairsB f l=true↔l.Pairwise fun a b=>f a b=true
 | []=>by simp [pairsB]
 | a::l=>by simp [pairsB,zgt (l:=l)]
section
variable {X:Type} {cx:Cx X} {O:Open X} {Y:Ys} {conf:List (Nat×Nat)} {N nb:Nat} {ops:Array Oper}
theorem Fx.comm {tab:Nat→Option TI} {oj oi:Oper} {j i:Nat} {ej ei:Option Nat} {fj fi:Fx} {h:H} {acc:List (Nat×Nat)} (hfj:fj.fits tab oj ej) (hfi:fi.fits tab oi ei) (hp:pairOK conf j i (kindD tab oj) (kindD tab oi)=true)
 (h1:fj.ok h) (h2:fi.ok (fj.go h)) (hn:NoClash conf i ei (push j ej acc)):fi.ok h∧fj.ok (fi.go h)∧fj.go (fi.go h)=fi.go (fj.go h):=by
 have ne:∀ q q',ej=some q→ei=some q'→inConf j i conf=true→q'≠q:=fun q q' e1 e2 hc e=>by
  have:=(zaa.1 (hn q' e2) (j,q) (by rw [e1]; simp [push]) e).1
  rw [hc] at this
  cases this
 have pk:∀ kj ki,(kj=1∨kj=2∨kj=3∨kj=5)→(ki=1∨ki=2∨ki=3∨ki=5)→((kj=2∨kj=3)∨(ki=2∨ki=3))→pairOK conf j i kj ki=true→inConf j i conf=true:=fun kj ki h1 h2 h3 hp=>by
  unfold pairOK at hp
  rw [if_neg (by omega),if_pos ⟨h1,h2,h3⟩] at hp
  exact hp
 cases fj with
 | no=>exact ⟨h2,trivial,rfl⟩
 | rd q c =>
  obtain ⟨a1,a2⟩:=hfj
  have h1:h.bx[q]? = some c:=h1
  cases fi with
  | no=>exact ⟨trivial,h1,rfl⟩
  | rd q' c'=>exact ⟨h2,h1,rfl⟩
  | wr q' c1 c2 =>
   obtain ⟨b1,b2⟩:=hfi
   have:=ne q q' a1 b1 (pk _ _ (by omega) (by omega) (by omega) hp)
   exact ⟨h2,by show (h.bx.set q' c2)[q]? = some c; rw [List.getElem?_set_ne this]; exact h1,rfl⟩
  | tk t t'=>exact ⟨h2,h1,rfl⟩
 | wr q c c' =>
  obtain ⟨a1,a2⟩:=hfj
  have h1:h.bx[q]? = some c:=h1
  cases fi with
  | no=>exact ⟨trivial,h1,rfl⟩
  | rd q' d =>
   obtain ⟨b1,b2⟩:=hfi
   have:=ne q q' a1 b1 (pk _ _ (by omega) (by omega) (by omega) hp)
   have h2:(h.bx.set q c')[q']? = some d:=h2
   rw [List.getElem?_set_ne (Ne.symm this)] at h2
   exact ⟨h2,h1,rfl⟩
  | wr q' d d' =>
   obtain ⟨b1,b2⟩:=hfi
   have:=ne q q' a1 b1 (pk _ _ (by omega) (by omega) (by omega) hp)
   have h2:(h.bx.set q c')[q']? = some d:=h2
   rw [List.getElem?_set_ne (Ne.symm this)] at h2
   refine ⟨h2,by show (h.bx.set q' d')[q]? = some c; rw [List.getElem?_set_ne this]; exact h1,?_⟩
   simp only [Fx.go]
   rw [List.set_comm _ _ this]
  | tk t t'=>exact ⟨h2,h1,rfl⟩
 | tk t t' =>
  have a2:kindD tab oj=4∨kindD tab oj=5:=hfj
  cases fi with
  | no=>exact ⟨trivial,h1,rfl⟩
  | rd q' d=>exact ⟨h2,h1,rfl⟩
  | wr q' d d'=>exact ⟨h2,h1,rfl⟩
  | tk s s' =>
   have b2:kindD tab oi=4∨kindD tab oi=5:=hfi
   unfold pairOK at hp
   rw [if_pos ⟨a2,b2⟩] at hp
   cases hp
theorem front {k:Env→H→Option X} (hk:Ins k) {r:X} {i:Nat} {oi:Oper} {C:List (Nat×Oper)} (hi:inConf i i conf=false):∀ (A:List (Nat×Oper)) (e:Env) (h:H) (acc:List (Nat×Nat)),opsD cx conf O N Y nb ops.toList (A++(i,oi)::C) e h acc k=some r →
 (∀ q∈A,inConf q.1 q.1 conf=false∧q.2.apart ops oi=true∧pairOK conf q.1 i (kindD cx.tab q.2) (kindD cx.tab oi)=true) →
 ∃ (v:AV) (f:Fx) (en:Option Nat),f.ok h∧f.fits cx.tab oi en∧NoClash conf i en acc∧StepOK cx O Y conf N nb ops i oi e v f en∧opsD cx conf O N Y nb ops.toList (A++C) (pute e oi.dst v) (f.go h) (push i en acc) k=some r
 | [],e,h,acc,hr,_=>by
  simp only [List.nil_append,opsD] at hr
  rw [zae hi] at hr
  obtain ⟨v,f,en,h1,h2,h3,⟨e1,he1,h4⟩,h5⟩:=zde hr
  refine ⟨v,f,en,h1,h2,h3,h5,?_⟩
  rw [List.nil_append,zbd hk C _ _ _ _ ((he1.symm).pute _ _)]
  exact h4
 | (j, oj)::A,e,h,acc,hr,hA=>by
  obtain ⟨hj,hap,hpair⟩:=hA (j,oj) (by simp)
  simp only [List.cons_append,opsD] at hr
  rw [zae hj] at hr
  obtain ⟨vj,fj,ej,j1,j2,j3,⟨e1,he1,j4⟩,j5⟩:=zde hr
  rw [zbd hk _ _ _ _ _ (he1.pute oj.dst vj)] at j4
  obtain ⟨vi,fi,ei,i1,i2,i3,i5,i4⟩:=front hk hi A _ _ _ j4 (fun q hq=>hA q (by simp [hq]))
  obtain ⟨p1,p2,p3⟩:=Oper.apart_spec hap
  obtain ⟨c1,c2,c3⟩:=Fx.comm j2 i2 hpair j1 i1 i3
  have hsub:∀ p∈acc,p∈push j ej acc:=fun p hp=>by
   cases ej with
   | none=>exact hp
   | some q=>simp [push,hp]
  have hnj:NoClash conf j ej (push i ei acc):=fun q hq=>by
   subst hq
   refine zaa.2 fun p hp he => ?_
   cases ei with
   | none=>exact zaa.1 (j3 q rfl) p hp he
   | some qi =>
    simp only [push,List.mem_cons] at hp
    rcases hp with rfl | hp
    · exact And.symm (zaa.1 (i3 qi rfl) (j,q) (by simp [push]) he.symm)
    · exact zaa.1 (j3 q rfl) p hp he
  refine ⟨vi,fi,ei,c1,i2,i3.less hsub,fun e2 h2 acc2 k2 he2 hok hnc=>i5 e2 h2 acc2 k2 (fun t ht => ?_) hok hnc,?_⟩
  · rw [he2 t ht,zy,if_neg (fun hd=>p1 t hd ht)]
  · simp only [List.cons_append,opsD]
    rw [zae hj]
    obtain ⟨e3,he3,j6⟩:=j5 (pute e oi.dst vi) (fi.go h) (push i ei acc) (fun e h acc=>opsD cx conf O N Y nb ops.toList (A++C) e h acc k) (fun t ht=>by rw [zy,if_neg (fun hd=>p3 t hd ht)]) c2 hnj
    rw [j6,c3]
    rw [zbd hk _ _ (pute (pute e oj.dst vj) oi.dst vi) _ _ (fun t => ?_),zjt _ _ _ _ (push i ei (push j ej acc)) (fun p => ?_)]
    · exact i4
    · cases ei<;>cases ej<;>simp only [push,List.mem_cons]
      exact ⟨fun h=>by rcases h with h | h | h<;>simp [h],fun h=>by rcases h with h | h | h<;>simp [h]⟩
    · rw [zy,zy,he3 t,zy,zy]
      by_cases a1:oj.dst=some t
      · rw [if_pos a1,if_neg (fun a2=>p2 t a1 a2),if_pos a1]
      · rw [if_neg a1,if_neg a1]
theorem zic {k:Env→H→Option X} (hk:Ins k) {r:X} {i:Nat} {oi:Oper} {C:List (Nat×Oper)} (hi:inConf i i conf=true):∀ (A:List (Nat×Oper)) (e:Env) (h:H) (acc:List (Nat×Nat)),opsD cx conf O N Y nb ops.toList (A++(i,oi)::C) e h acc k=some r →
 (∀ q∈A,inConf q.1 q.1 conf=false∧q.2.apart ops oi=true∧(kindD cx.tab q.2=0∨(kindD cx.tab q.2=1∧inConf q.1 i conf=true))) →
 oi.guard=none∧∃ k1:AV→H→Option X,opX cx O Y oi e h k1=some r∧∀ av h',k1 av h'=some r→(∀ t,oi.dst=some t→t<N)∧(∀ p∈acc,inConf p.1 i conf=true→nth h.bx p.2=nth h'.bx p.2)∧opsD cx conf O N Y nb ops.toList (A++C) (pute e oi.dst av) h' acc k=some r
 | [],e,h,acc,hr,_=>by
  simp only [List.nil_append,opsD] at hr
  rw [zby hi] at hr
  unfold bigD at hr
  split at hr
  · rename_i hg
    refine ⟨hg,_,hr,fun av h' hk1 => ?_⟩
    obtain ⟨h1,h2⟩:=zbm.1 hk1
    obtain ⟨h3,h4⟩:=zcy h2
    exact ⟨h3,h1,h4⟩
  · cases hr
 | (j, oj) :: A,e,h,acc,hr,hA=>by
  obtain ⟨hj,hap,hlight⟩:=hA (j,oj) (by simp)
  have hlight:kindD cx.tab oj=0∨(kindD cx.tab oj=1∧inConf j i conf=true):=hlight
  simp only [List.cons_append,opsD] at hr
  rw [zae hj] at hr
  obtain ⟨vj,fj,ej,j1,j2,j3,⟨e1,he1,j4⟩,j5⟩:=zde hr
  rw [zbd hk _ _ _ _ _ (he1.pute oj.dst vj)] at j4
  obtain ⟨p1,p2,p3⟩:=Oper.apart_spec hap
  have hgo:fj.go h=h:=by
   cases fj with
   | no=>rfl
   | rd q c=>rfl
   | wr q c c' =>
    have:kindD cx.tab oj=2∨kindD cx.tab oj=3:=j2.2
    exfalso; omega
   | tk a b =>
    have:kindD cx.tab oj=4∨kindD cx.tab oj=5:=j2
    exfalso; omega
  rw [hgo] at j4
  obtain ⟨hg,k1,i1,i2⟩:=zic hk hi A _ _ _ j4 (fun q hq=>hA q (by simp [hq]))
  refine ⟨hg,k1,?_,fun av h' hk1 => ?_⟩
  · rw [zhg (e':=pute e oj.dst vj) oi (zjr fun t ht=>by rw [zy,if_neg (fun hd=>p1 t hd ht)])]
    exact i1
  · obtain ⟨g1,g2,g3⟩:=i2 av h' hk1
    have hsub:∀ p∈acc,p∈push j ej acc:=fun p hp=>by
     cases ej with
     | none=>exact hp
     | some q=>simp [push,hp]
    refine ⟨g1,fun p hp hc=>g2 p (hsub p hp) hc,?_⟩
    have hok:fj.ok h'∧fj.go h'=h':=by
     cases fj with
     | no=>exact ⟨trivial,rfl⟩
     | rd q c =>
      refine ⟨?_,rfl⟩
      obtain ⟨b1,b2⟩:=j2
      subst b1
      have h1:h.bx[q]? = some c:=j1
      have:=g2 (j,q) (by simp [push]) (by
       rcases hlight with hl | hl
       · have:kindD cx.tab oj=1∨kindD cx.tab oj=5:=b2
         exfalso; omega
       · exact hl.2)
      rw [zl,zl] at this
      show h'.bx[q]? = some c
      rw [← this]; exact h1
     | wr q c c' =>
      have:kindD cx.tab oj=2∨kindD cx.tab oj=3:=j2.2
      exfalso; omega
     | tk a b =>
      have:kindD cx.tab oj=4∨kindD cx.tab oj=5:=j2
      exfalso; omega
    simp only [List.cons_append,opsD]
    rw [zae hj]
    obtain ⟨e3,he3,j6⟩:=j5 (pute e oi.dst av) h' acc (fun e h acc=>opsD cx conf O N Y nb ops.toList (A++C) e h acc k) (fun t ht=>by rw [zy,if_neg (fun hd=>p3 t hd ht)]) hok.1 j3
    rw [j6,hok.2]
    rw [zbd hk _ _ (pute (pute e oj.dst vj) oi.dst av) _ _ (fun t => ?_)]
    · exact g3
    · rw [zy,zy,he3 t,zy,zy]
      by_cases a1:oj.dst=some t
      · rw [if_pos a1,if_neg (fun a2=>p2 t a1 a2),if_pos a1]
      · rw [if_neg a1,if_neg a1]
end
end Go.AM
set_option linter.unusedVariables false
set_option linter.unusedSimpArgs false
namespace Go.AM
open Go.RowKit
section
variable {P:Program} {w:World} {G:GS}
theorem St.addHole {B0:Nat} {w0:Wd} {h:H} (s:St B0 w0 G h w):∃ G',Ext G.base G G'∧St B0 w0 G' { h with bx:=h.bx++[hole] } w:=by
 have hbv:∀ r,r<G.bx.length→(fun r=>if r=G.bx.length then (⟨0,0,0,0⟩:BvG) else G.bv r) r=G.bv r:=fun r hr=>if_neg (by omega)
 have hx:Ext G.base G { G with bx:=G.bx++[none],bv:=fun r=>if r=G.bx.length then ⟨0,0,0,0⟩ else G.bv r }:=
  { D := fun _ _ x=>x
    bx:=fun r hr=>by
     have:r<G.bx.length:=hr
     exact .inl ⟨by simp [List.getElem?_append_left this],hbv r this⟩
    tk:=(Ext.refl (Base.le_refl _)).tk
    lp:=fun _ _=>rfl
    df:=rfl }
 have hget:∀ (r b:Nat),(G.bx++[none])[r]? = some (some b)→G.bx[r]? = some (some b):=fun r b hr=>by
  by_cases h1:r<G.bx.length
  · rwa [List.getElem?_append_left h1] at hr
  · rw [List.getElem?_append_right (Nat.le_of_not_lt h1)] at hr
    have:=(List.getElem?_eq_some_iff.1 hr).1
    have e0:r - G.bx.length=0:=by simp at this; omega
    rw [e0] at hr
    simp at hr
 have hmem:∀ b,some b∈G.bx++[none]→some b∈G.bx:=fun b hb=>by simpa using hb
 refine ⟨_,hx,?_⟩
 exact
 { below:=s.below
   b0:=s.b0
   bxl:=by simp [s.bxl]
   box:=fun r b cs h1 h2=>by
    have h1:=hget r b h1
    have hr:r<G.bx.length:=(List.getElem?_eq_some_iff.1 h1).1
    simp only [List.getElem?_append_left (by rw [s.bxl]; exact hr:r<h.bx.length)] at h2
    obtain ⟨hB,ob,hh,hrr⟩:=s.box r b cs h1 h2
    exact ⟨hB,ob,hh,hrr.keep hx (Keep.refl _ _) (hbv r hr)⟩
   virt:=fun r cs h1 h2=>by
    by_cases hr:r<G.bx.length
    · simp only [List.getElem?_append_left hr] at h1
      simp only [List.getElem?_append_left (by rw [s.bxl]; exact hr:r<h.bx.length)] at h2
      rcases s.virt r cs h1 h2 with ⟨v,τ',e1,e2,e3,e4⟩ | ⟨e1,e2⟩
      · exact .inl ⟨v,τ',e1,e2,e3,(hbv r hr).trans e4⟩
      · exact .inr ⟨e1,(congrArg BvG.v (hbv r hr)).trans e2⟩
    · simp only [List.getElem?_append_right (by rw [s.bxl]; exact Nat.le_of_not_lt hr:h.bx.length≤r)] at h2
      have hr':=(List.getElem?_eq_some_iff.1 h1).1
      have e0:r - h.bx.length=0:=by simp at hr'; rw [s.bxl]; omega
      rw [e0] at h2
      simp at h2
      subst h2
      have er:r=G.bx.length:=by simp at hr'; omega
      exact .inr ⟨rfl,by rw [er]; simp⟩
   inj:=fun r r' b h1 h2=>s.inj r r' b (hget r b h1) (hget r' b h2)
   dat:=fun b o hd=>⟨(s.dat b o hd).1,fun hm=>(s.dat b o hd).2 (hmem b hm)⟩
   dat0:=s.dat0
   tkl:=s.tkl
   tok:=fun t g ht=>by
    obtain ⟨h1,h2⟩:=s.tok t g ht
    refine ⟨h1,fun hlt => ?_⟩
    obtain ⟨b,hA,hB,hn,rest⟩:=h2 hlt
    exact ⟨b,hA,hB,fun hm=>hn (hmem b hm),rest⟩
   tki:=s.tki
   lpl:=s.lpl
   loop:=s.loop
   lpi:=s.lpi
   dfr:=s.dfr
   dfn:=s.dfn }
theorem St.addHoles {B0:Nat} {w0:Wd}:∀ (n:Nat) {G:GS} {h:H},St B0 w0 G h w→∃ G',Ext G.base G G'∧St B0 w0 G' { h with bx:=h.bx++holes n } w
 | 0,G,h,s=>⟨G,Ext.refl (Base.le_refl _),by simpa [holes] using s⟩
 | n+1,G,h,s=>by
  obtain ⟨G1,h1,s1⟩:=s.addHole
  obtain ⟨G2,h2,s2⟩:=St.addHoles n s1
  refine ⟨G2,h1.trans (h2.mono (zad h1)),?_⟩
  simpa [holes] using s2
theorem St.fill {B0:Nat} {w0:Wd} {h:H} (s:St B0 w0 G h w) {q:Nat} (hq:h.bx[q]? = some hole) {vs:Array Value} {cs:List AV} (hr:RepL w G vs.toList cs) (t:TypeId) (hn:noBld cs=true) :
 ∃ G',Ext G.base G G'∧Keep G.D w (w.alloc (.cells vs t))∧St B0 w0 G' { h with bx:=h.bx.set q cs } (w.alloc (.cells vs t))∧G'.bx[q]? = some (some w.heap.size)∧(G'.bv q).v=0:=by
 have hg:w.grownBy (w.alloc (.cells vs t)) none:=World.grownBy_alloc w _ none
 have s':=s.grown0 hg
 have hk:Keep G.D w (w.alloc (.cells vs t)):=Keep.of_grown hg (fun b o x=>(s.dat b o x).1) (fun _ _ _=>by simp)
 have hql:q<h.bx.length:=(List.getElem?_eq_some_iff.1 hq).1
 have hqg:q<G.bx.length:=by rw [← s.bxl]; exact hql
 have hlt:∀ (r b:Nat),G.bx[r]? = some (some b)→b<w.heap.size:=fun r b hb=>by
  have hr':r<h.bx.length:=by rw [s.bxl]; exact (List.getElem?_eq_some_iff.1 hb).1
  obtain ⟨_,_,hh,_⟩:=s.box r b _ hb (List.getElem?_eq_getElem hr')
  exact (Array.getElem?_eq_some_iff.1 hh).1
 have hnone:G.bx[q]? = some none∧(G.bv q).v=0:=by
  have hb:G.bx[q]? = some G.bx[q]:=List.getElem?_eq_getElem hqg
  generalize G.bx[q]=z at hb
  cases z with
  | none =>
   rcases s.virt q _ hb hq with ⟨v,τ,e,h0,hz,hv⟩ | ⟨_,e⟩
   · simp only [hole,List.cons.injEq,AV.row.injEq,and_true] at e
     obtain ⟨e,_⟩:=e
     omega
   · exact ⟨hb,e⟩
  | some b =>
   obtain ⟨_,ob,hh,hR⟩:=s.box q b _ hb hq
   exfalso
   generalize hcs:hole=c at hR
   cases hR with
   | mp=>simp [hole] at hcs
   | fm=>simp [hole] at hcs
   | cells _ _ _ hR _ =>
    cases hR with
    | box _ hn _ _=>subst hcs; cases hn
    | row v' τ' l' cap h0 hv hz hc hm hs hl =>
     simp only [hole,List.cons.injEq,AV.row.injEq,and_true] at hcs
     obtain ⟨e,_⟩:=hcs
     omega
 have hx : Ext G.base G { G with bx:=G.bx.set q (some w.heap.size) }:=
  { D := fun _ _ x=>x
    bx:=fun r _=>by
     by_cases hrq:r=q
     · subst hrq
       exact .inr (.inr ⟨hnone.1,hnone.2,some w.heap.size,by simp [hqg]⟩)
     · exact .inl ⟨by simp only [List.getElem?_set,Ne.symm hrq,if_false],rfl⟩
    tk:=(Ext.refl (Base.le_refl _)).tk
    lp:=fun _ _=>rfl
    df:=rfl }
 have hnm:∀ b,some b∈G.bx.set q (some w.heap.size)→some b∈G.bx∨b=w.heap.size:=fun b hb=>by
  obtain ⟨x,hx⟩:=List.getElem?_of_mem hb
  rw [List.getElem?_set] at hx
  split at hx
  · simp [hqg] at hx; exact .inr hx.symm
  · exact .inl (List.mem_of_getElem? hx)
 refine ⟨_,hx,hk,?_,by simp [hqg],hnone.2⟩
 exact
 { below := s'.below
   b0:=s'.b0
   bxl:=by simp [s.bxl]
   box := fun r b ds h1 h2=>by
    simp only [List.getElem?_set] at h1 h2
    by_cases hrq:q=r
    · subst hrq
      rw [if_pos rfl,if_pos hqg] at h1
      rw [if_pos rfl,if_pos hql] at h2
      obtain rfl:=Option.some.inj (Option.some.inj h1)
      obtain rfl:=Option.some.inj h2
      exact ⟨s.b0,_,World.alloc_heap_new w _,.cells _ _ _ (.box _ _ hr.noRow hnone.2 (hr.mono hx hk)) (fun T hT=>(zfx hn hr.noRow T hT).elim)⟩
    · rw [if_neg hrq] at h1 h2
      obtain ⟨hB,ob,hh,hrr⟩:=s'.box r b ds h1 h2
      exact ⟨hB,ob,hh,hrr.keep hx (Keep.refl _ _) rfl⟩
   virt:=fun r ds h1 h2=>by
    simp only [List.getElem?_set] at h1 h2
    by_cases hrq:q=r
    · subst hrq
      rw [if_pos rfl,if_pos hqg] at h1
      cases h1
    · rw [if_neg hrq] at h1 h2
      exact s'.virt r ds h1 h2
   inj := fun r r' b h1 h2=>by
    simp only [List.getElem?_set] at h1 h2
    by_cases e1:q=r
    · by_cases e2:q=r'
      · omega
      · rw [if_pos e1,if_pos (by omega)] at h1
        rw [if_neg e2] at h2
        obtain rfl:=Option.some.inj (Option.some.inj h1)
        have:=hlt r' _ h2
        omega
    · by_cases e2:q=r'
      · rw [if_pos e2,if_pos (by omega)] at h2
        rw [if_neg e1] at h1
        obtain rfl:=Option.some.inj (Option.some.inj h2)
        have:=hlt r _ h1
        omega
      · rw [if_neg e1] at h1
        rw [if_neg e2] at h2
        exact s.inj r r' b h1 h2
   dat := fun b o x=>by
    obtain ⟨hu,hn⟩:=s'.dat b o x
    refine ⟨hu,fun hm => ?_⟩
    rcases hnm b hm with hm | rfl
    · exact hn hm
    · obtain ⟨u,hu0⟩:=(s.dat _ o x).1
      have:=World.block_lt_of_cell? w _ hu0
      simp at this
   dat0:=s'.dat0
   tkl:=s'.tkl
   tok := fun t g ht=>by
    obtain ⟨h1,h2⟩:=s'.tok t g ht
    refine ⟨h1,fun hlt' => ?_⟩
    obtain ⟨b,hA,hB,hn,cs',et,fr,hh,hc,hi⟩:=h2 hlt'
    refine ⟨b,hA,hB,fun hm => ?_,cs',et,fr,hh,hc,hi⟩
    rcases hnm b hm with hm | rfl
    · exact hn hm
    · obtain ⟨b',hA',_,_,cs0,_,_,hh0,_⟩:=(s.tok t g ht).2 hlt'
      rw [hA] at hA'
      obtain rfl:=Option.some.inj hA'
      have:=(Array.getElem?_eq_some_iff.1 hh0).1
      omega
   tki:=s'.tki
   lpl:=s'.lpl
   loop:=s'.loop
   lpi:=s'.lpi
   dfr:=s'.dfr
   dfn:=s'.dfn }
theorem zq1 {X:Type} {cx:Cx X} {O:Open X} {Y:Ys} (hT:TabOK P cx.tab) {B0:Nat} {w0:Wd} {h:H} (st:St B0 w0 G h w) {a:Act} {e:Env} {N:Nat} (he:EnvR w G N a.tmps e) (o:Oper) (hmb:makesBox o=true) {p:Nat}
 {k:AV→H→Option X} {r:X} (hk:opP cx p O Y o e h k=some r):Good P B0 w0 G w k r ((execOp a.eval o).run P w):=by
 unfold makesBox at hmb
 unfold execOp
 split at hmb
 · rename_i t ho
   unfold opP at hk
   simp only [ho] at hk ⊢
   split at hk
   · rename_i ti ht
     obtain ⟨hc,hk⟩:=zb hk
     simp only [Bool.and_eq_true,nbeq,nblt] at hc
     obtain ⟨q1,q2,_⟩:=zb2 hk
     obtain ⟨z,hz,hR⟩:=zw (w:=w) (hT t ti ht) (fun e=>by rw [e] at hc; simp at hc; omega)
     obtain ⟨G',hx,hkp,hs',hb⟩:=st.fill q1 (hR w G) t (zgm hR)
     exact Good.v' (v:=.pointer (some ⟨w.heap.size,0,none⟩)) (w':=w.alloc (.cells z.cells t)) (by simp [Instr.alloc,hz,newVar,newRow]) ⟨.ref p 0,G',_,hx,hkp,hs',.ref _ _ _ hb.1 hb.2,q2⟩
   · cases hk
 · rename_i t x ho
   unfold opP at hk
   simp only [ho] at hk ⊢
   split at hk
   · rename_i ti ht
     obtain ⟨hc,hk⟩:=zb hk
     simp only [Bool.and_eq_true,nbeq,nblt] at hc
     obtain ⟨q1,q2,_⟩:=zb2 hk
     have hv:=zac (he.ev x) ti.ty
     obtain ⟨G',hx,hkp,hs',hb⟩:=st.fill q1 (za5 hv (zau (by omega))) t hc.2
     exact Good.v' (v:=.pointer (some ⟨w.heap.size,0,none⟩)) (w':=w.alloc (.cells (a.eval x).cells t)) (by simp [Instr.box,newVar,newRow]) ⟨.ref p 0,G',_,hx,hkp,hs',.ref _ _ _ hb.1 hb.2,q2⟩
   · cases hk
 · cases hmb
end
section
variable {P:Program} {B0:Nat} {w0:Wd} {G0:GS} {wb:World} {ρ:Option Nat} {N:Nat}
theorem zou {X:Type} {cx:Cx X} {O:Open X} {Y:Ys} (hT:TabOK P cx.tab) (hC:(∀ g orc,cx.C g=some orc→OrcOK P (Below B0 w0.w) g orc)∧∀ g p,cx.pr g=some p→PrOK P (Below B0 w0.w) g p) (hO:OpenOK P B0 w0 cx O) (hY:YOK cx Y G0 wb) {a:Act} {w:World} {e:Env} {h:H} {G:GS} (s:Rel B0 w0 N G0 wb ρ a w e h G) {o:Oper} {p:Nat}
 {k:AV→H→Option X} {r:X} (hk:opP cx p O Y o e h k=some r) {next:Act→World→Prop} {Q:Exit→Act→World→Prop} (hn:∀ v w',Ends B0 w0 G w k r v w'→next (a.put o.dst v) w'):o.wpIn (FW ρ) 0 P a w next Q:=by
 cases hmb:makesBox o with
 | false =>
  rw [zm3 hmb] at hk
  exact zf5 hT hC hO hY s hk hn
 | true =>
  refine ⟨fun f _=>trivial,?_⟩
  have hnd:∀ c,o.op ≠ .defer c:=fun c hc=>by
   unfold makesBox at hmb
   rw [hc] at hmb
   cases hmb
  rw [Oper.semAt_eq _ _ _ hnd]
  obtain ⟨v,w',hres,hE⟩:=zq1 hT s.st s.env o hmb hk
  rcases hres with hres | ⟨hres,rfl⟩
  · rw [hres,Oper.uponIn_value]; exact hn v w' hE
  · rw [hres,Oper.uponIn_skip]; exact hn _ w' hE
end
end Go.AM
set_option linter.unusedVariables false
set_option linter.unusedSimpArgs false
namespace Go.AM
open Go.RowKit
def restOf {α:Type} (listed:Array Bool) (l:List (Nat×α)):List (Nat×α):=l.filter fun p => !listed.getD p.1 true
theorem zgu {α:Type}:∀ {l:List α} {n i:Nat} {a:α},(i,a)∈number n l→n≤i∧l[i - n]? = some a
 | [],n,i,a,h=>by simp [number] at h
 | b :: l,n,i,a,h=>by
  simp only [number,List.mem_cons,Prod.mk.injEq] at h
  rcases h with ⟨rfl,rfl⟩ | h
  · simp
  · obtain ⟨h1,h2⟩:=zgu h
    refine ⟨by omega,?_⟩
    rw [show i - n=(i - (n+1))+1 from by omega]
    simpa using h2
theorem zdi {α:Type}:∀ {l:List α} {n i:Nat} {a:α},n≤i→l[i - n]? = some a→(i,a)∈number n l
 | [],n,i,a,_,h=>by simp at h
 | b :: l,n,i,a,hn,h=>by
  simp only [number,List.mem_cons,Prod.mk.injEq]
  by_cases e:i=n
  · subst e; simp at h; exact .inl ⟨rfl,h.symm⟩
  · right
    refine zdi (by omega) ?_
    rw [show i - n=(i - (n+1))+1 from by omega] at h
    simpa using h
theorem zf6 {i p:Nat} {listed:Array Bool}:(listed.setIfInBounds i true).getD p true=if p=i then true else listed.getD p true:=by
 by_cases e:p=i
 · subst e
   rw [if_pos rfl]
   simp only [Array.getD_eq_getD_getElem?]
   by_cases hp:p<listed.size
   · simp [hp]
   · simp [Nat.not_lt.1 hp]
 · rw [if_neg e]
   simp only [Array.getD_eq_getD_getElem?]
   rw [Array.getElem?_setIfInBounds_ne (Ne.symm e)]
theorem zq2 {α:Type} {listed:Array Bool} {i:Nat} {L:List (Nat×α)}:restOf (listed.setIfInBounds i true) L=(restOf listed L).filter fun p => !Nat.beq p.1 i:=by
 unfold restOf
 rw [List.filter_filter]
 refine List.filter_congr fun p _ => ?_
 rw [zf6]
 by_cases e:p.1=i
 · rw [if_pos e,nbeq.2 e]; rfl
 · rw [if_neg e]
   have:Nat.beq p.1 i=false:=by
    cases hb:Nat.beq p.1 i
    · rfl
    · exact absurd (nbeq.1 hb) e
   rw [this]; simp
theorem zeo {ops:List Oper}:∀ {l:List Nat} {i:Nat} {o:Oper},(i,o)∈pickN ops l→ops[i]? = some o
 | [],i,o,h=>by simp [pickN] at h
 | k :: l,i,o,h=>by
  simp only [pickN] at h
  split at h
  · rename_i o' ho
    rcases List.mem_cons.1 h with h | h
    · obtain ⟨rfl,rfl⟩:=Prod.mk.inj h
      rw [← zl]; exact ho
    · exact zeo h
  · exact zeo h
theorem zdj {conf:List (Nat×Nat)} {ops:List Oper} {i:Nat} {o:Oper} (h:(i,o)∈ordL conf ops):ops[i]? = some o:=by
 unfold ordL at h
 split at h
 · simpa using (zgu h).2
 · exact zeo h
theorem zq3 {M:List Nat} {o:Oper} {e:_} (he:e∈o.after.toList) (hb:Region.binds .any e=true):Nat.testBit (maskOf M o) e.on=true:=by
 unfold maskOf
 revert he
 induction o.after.toList with
 | nil=>intro h; cases h
 | cons a es ih =>
  intro h
  simp only [List.foldr_cons]
  rcases List.mem_cons.1 h with rfl | h
  · rw [hb,cond_true,Nat.testBit_or,Nat.testBit_two_pow]
    simp
  · have:=ih h
    cases Region.binds .any a with
    | false=>exact this
    | true=>rw [cond_true,Nat.testBit_or,Nat.testBit_or,this]; simp
theorem zq4 {M:List Nat} {o:Oper} {j:Nat} (h:Nat.testBit (maskOf M o) j=true):∃ e∈o.after.toList,Region.binds .any e=true∧(e.on=j∨Nat.testBit ((nth M e.on).getD 0) j=true):=by
 unfold maskOf at h
 revert h
 induction o.after.toList with
 | nil=>intro h; simp at h
 | cons e es ih =>
  intro h
  simp only [List.foldr_cons] at h
  cases hb:Region.binds .any e with
  | false =>
   rw [hb] at h
   simp only [cond_false] at h
   obtain ⟨e',h1,h2⟩:=ih h
   exact ⟨e',by simp [h1],h2⟩
  | true =>
   rw [hb] at h
   simp only [cond_true,Nat.testBit_or,Bool.or_eq_true] at h
   rcases h with h | h | h
   · rw [Nat.testBit_two_pow] at h
     exact ⟨e,by simp,hb,.inl (by simpa using h)⟩
   · exact ⟨e,by simp,hb,.inr h⟩
   · obtain ⟨e',h1,h2⟩:=ih h
     exact ⟨e',by simp [h1],h2⟩
section
variable {X:Type} {P:Program} {cx:Cx X} {O:Open X} {Y:Ys} {conf:List (Nat×Nat)} {N nb:Nat} {ops:Array Oper} {B0:Nat} {w0:Wd} {G0:GS} {wb:World} {ρ:Option Nat}
theorem zm7 (hT:TabOK P cx.tab) (hC:(∀ g orc,cx.C g=some orc→OrcOK P (Below B0 w0.w) g orc)∧∀ g p,cx.pr g=some p→PrOK P (Below B0 w0.w) g p) (hO:OpenOK P B0 w0 cx O) (hY:YOK cx Y G0 wb) {i:Nat} {o:Oper} (hi:ops[i]? = some o) {a:Act} {w:World} {e:Env} {h:H} {G:GS} (s:Rel B0 w0 N G0 wb ρ a w e h G) {acc:List (Nat×Nat)}
 {k:Env→H→List (Nat×Nat)→Option X} {r:X} (hk:smallD cx conf O N Y nb ops.toList i o e h acc k=some r) {next:Act→World→Prop} {Q:Exit→Act→World→Prop}
 (hn:∀ a' w' e' h' G' acc',Rel B0 w0 N G0 wb ρ a' w' e' h' G'→k e' h' acc'=some r→next a' w') :
 wpOpIn (FW ρ) 0 P ops Q i next a w:=by
 unfold wpOpIn
 rw [hi]
 have go:∀ e,Rel B0 w0 N G0 wb ρ a w e h G→goD cx conf O N Y (nb+rankOf ops.toList i) i o e h acc k=some r→o.wpIn (FW ρ) 0 P a w next Q:=by
  intro e s hk
  unfold goD at hk
  have hk:=(zb hk).2
  have fin:∀ acc',(opP cx (nb+rankOf ops.toList i) O Y o e h fun v h=>put N e o.dst v fun e=>k e h acc')=some r→o.wpIn (FW ρ) 0 P a w next Q:=fun acc' hk=>by
   refine zou hT hC hO hY s hk fun v w' hE => ?_
   obtain ⟨av,G',h',hx,hkp,st,hv,hk'⟩:=hE
   obtain ⟨e',s',hk''⟩:=(s.step hx hkp st).put (e':=e) hv hk'
   exact hn _ _ _ _ _ _ s' hk''
  split at hk
  · cases hcl:clash conf i _ acc with
    | true=>rw [hcl] at hk; cases hk
    | false=>rw [hcl] at hk; exact fin _ hk
  · exact fin _ hk
 unfold smallD at hk
 split at hk
 · rename_i hg
   simp only
   rw [if_pos (by simp [Region.wanted,hg])]
   exact go e s hk
 · rename_i j wnt hg
   split at hk
   · rename_i d hd
     split at hk
     · rename_i b hb
       obtain ⟨hy,hdN,hv⟩:=zen hd s.env hb
       have run:b=wnt→goD cx conf O N Y (nb+rankOf ops.toList i) i o ((d,.bool wnt)::e) h acc k=some r →
        (if Region.wanted o (yielded ops a.tmps)=true then o.wpIn (FW ρ) 0 P a w next Q else (∀ f,o.about P w a.eval=some f→(FW ρ).fn f)∧next (a.put o.dst undef) w):=by
        intro hbw hk
        subst hbw
        rw [if_pos (by simp [Region.wanted,hg,hy])]
        exact go _ (s.refine hdN hv) hk
       have pass:b = !wnt→(put N ((d,.bool (!wnt))::e) o.dst (.tup []) fun e=>k e h acc)=some r →
        (if Region.wanted o (yielded ops a.tmps)=true then o.wpIn (FW ρ) 0 P a w next Q else (∀ f,o.about P w a.eval=some f→(FW ρ).fn f)∧next (a.put o.dst undef) w):=by
        intro hbw hk
        rw [if_neg (by rw [Region.wanted,hg]; simp only [hy,hbw]; cases wnt<;>simp)]
        refine ⟨fun _ _=>trivial,?_⟩
        obtain ⟨e',s',hk''⟩:=(s.refine hdN (b:=!wnt) (by rw [hv,hbw])).put (e':=e) (v:=undef) (zap _ _) hk
        exact hn _ _ _ _ _ _ s' hk''
       cases wnt<;>cases b<;>simp only [cond_true,cond_false] at hk
       · exact run rfl hk
       · exact pass rfl hk
       · exact pass rfl hk
       · exact run rfl hk
     · rename_i vs hb
       have hy:=zia hd s.env hb
       simp only
       rw [if_neg (by rw [Region.wanted,hg]; simp [hy])]
       refine ⟨fun _ _=>trivial,?_⟩
       obtain ⟨e',s',hk''⟩:=s.put (e':=e) (v:=undef) (zap _ _) hk
       exact hn _ _ _ _ _ _ s' hk''
     · cases hk
   · cases hk
def Closed (ops:Array Oper) (M:List Nat) (listed:Array Bool):Prop:=∀ (i:Nat) (o:Oper),ops[i]? = some o→listed.getD i true=true→∀ j,Nat.testBit ((nth M i).getD 0) j=true→listed.getD j true=true
theorem drawn (hT:TabOK P cx.tab) (hC:(∀ g orc,cx.C g=some orc→OrcOK P (Below B0 w0.w) g orc)∧∀ g p,cx.pr g=some p→PrOK P (Below B0 w0.w) g p) (hO:OpenOK P B0 w0 cx O) (hY:YOK cx Y G0 wb) {M:List Nat} (hok:drawOK cx.tab ops conf M=true) {k:Env→H→Option X} (hk:Ins k) {r:X} {Q:Exit→Act→World→Prop}
 (hq:∀ a w e h G,Rel B0 w0 N G0 wb ρ a w e h G→k e h=some r→Q .normal a w) :
 ∀ (fuel:Nat) (listed:Array Bool) (a:Act) (w:World) (e:Env) (h:H) (G:GS) (acc:List (Nat×Nat)),Rel B0 w0 N G0 wb ρ a w e h G→listed.size=ops.size→Closed ops M listed→(restOf listed (ordL conf ops.toList)).length≤fuel →
  opsD cx conf O N Y nb ops.toList (restOf listed (ordL conf ops.toList)) e h acc k=some r→wpAnyIn (FW ρ) 0 P .any ops Q fuel listed a w:=by
 unfold drawOK at hok
 simp only [Bool.and_eq_true,List.all_eq_true,List.any_eq_true,nbeq] at hok
 obtain ⟨hk1,hk2,hk3⟩:=hok
 have hpw:=zgt.1 hk3
 have hin:∀ (i:Nat) (o:Oper),ops[i]? = some o→(i,o)∈ordL conf ops.toList:=by
  intro i o hi
  obtain ⟨q,q1,q2⟩:=(hk1 (i,o) (zdi (Nat.zero_le _) (by simpa using hi))).2
  have h1:=zdj (i:=q.1) (o:=q.2) q1
  have e1:q.1=i:=q2
  rw [e1] at h1
  have e2:q.2=o:=by
   have h2:ops[i]? = some q.2:=by simpa using h1
   rw [hi] at h2
   exact (Option.some.inj h2).symm
  rw [← e1,← e2]; exact q1
 have hedge:∀ (i:Nat) (o:Oper),ops[i]? = some o→(∀ e∈o.after.toList,Region.binds .any e=true→e.on<i)∧(nth M i).getD 0=maskOf M o:=by
  intro i o hi
  have:=(hk1 (i,o) (zdi (Nat.zero_le _) (by simpa using hi))).1
  simp only [edgesOK,Bool.and_eq_true,List.all_eq_true,Bool.or_eq_true,Bool.not_eq_true',nbeq,nblt] at this
  refine ⟨fun e he hb => ?_,this.2⟩
  rcases this.1 e he with h | h
  · rw [hb] at h; cases h
  · exact h
 have hR:∀ listed,(restOf listed (ordL conf ops.toList)).Pairwise fun q p=>relOK cx.tab ops conf M q p=true:=fun listed=>hpw.filter _
 have relD:∀ {q p:Nat×Oper},relOK cx.tab ops conf M q p=true→q.1≠p.1∧Nat.testBit ((nth M q.1).getD 0) p.1=false∧(Nat.testBit ((nth M p.1).getD 0) q.1=true∨(inConf q.1 q.1 conf=false∧q.2.apart ops p.2=true ∧
  (inConf p.1 p.1 conf=true→kindD cx.tab q.2=0∨(kindD cx.tab q.2=1∧inConf q.1 p.1 conf=true))∧(inConf p.1 p.1 conf=false→pairOK conf q.1 p.1 (kindD cx.tab q.2) (kindD cx.tab p.2)=true))):=by
  intro q p hr
  unfold relOK at hr
  simp only [Bool.and_eq_true,Bool.or_eq_true,Bool.not_eq_true'] at hr
  refine ⟨fun e=>by rw [nbeq.2 e] at hr; exact absurd hr.1 (by simp),hr.2.1,?_⟩
  rcases hr.2.2 with h | ⟨h1,h2,h3⟩
  · exact .inl h
  · refine .inr ⟨h1,h2,fun hb => ?_,fun hb => ?_⟩
    · rw [hb,cond_true] at h3
      simp only [Bool.or_eq_true,Bool.and_eq_true,nbeq] at h3
      exact h3
    · rw [hb,cond_false] at h3
      exact h3
 have empty:∀ (listed:Array Bool),listed.size=ops.size→Region.ready .any ops listed=[]→restOf listed (ordL conf ops.toList)=[]:=by
  intro listed hsz hr
  cases hRR:restOf listed (ordL conf ops.toList) with
  | nil=>rfl
  | cons p T =>
   exfalso
   obtain ⟨i,o⟩:=p
   have hmem:(i,o)∈restOf listed (ordL conf ops.toList):=by rw [hRR]; simp
   unfold restOf at hmem
   rw [List.mem_filter] at hmem
   have hi:ops[i]? = some o:=by simpa using zdj hmem.1
   have h1:listed.getD i true=false:=by simpa using hmem.2
   have:i∈Region.ready .any ops listed:=by
    refine mem_ready.2 ⟨h1,o,hi,fun e he hb => ?_⟩
    have hlt:=(hedge i o hi).1 e (by simpa using he) hb
    have hil:i<ops.size:=(Array.getElem?_eq_some_iff.1 hi).1
    have h4:listed.getD e.on true=true:=by
     cases hl:listed.getD e.on true with
     | true=>rfl
     | false =>
      exfalso
      have hje:ops[e.on]? = some ops[e.on]:=Array.getElem?_eq_getElem (by omega)
      have hmj:(e.on,ops[e.on])∈restOf listed (ordL conf ops.toList):=by
       unfold restOf
       rw [List.mem_filter]
       exact ⟨hin _ _ hje,by simp [hl]⟩
      rw [hRR] at hmj
      rcases List.mem_cons.1 hmj with h | h
      · have:e.on=i:=(Prod.mk.inj h).1
        omega
      · have hp:=hR listed
        rw [hRR] at hp
        have:=(relD ((List.pairwise_cons.1 hp).1 _ h)).2.1
        rw [(hedge i o hi).2,zq3 (by simpa using he) hb] at this
        cases this
    simp only [Array.getD_eq_getD_getElem?] at h4 ⊢
    rw [Array.getElem?_eq_getElem (by omega)] at h4 ⊢
    exact h4
   rw [hr] at this
   cases this
 intro fuel
 induction fuel with
 | zero =>
  intro listed a w e h G acc s hsz hcl hlen hr
  have h0:restOf listed (ordL conf ops.toList)=[]:=List.eq_nil_of_length_eq_zero (by omega)
  rw [h0] at hr
  refine ⟨?_,hq a w e h G s hr⟩
  rw [List.eq_nil_iff_forall_not_mem]
  intro i hi
  obtain ⟨h1,o,h2,_⟩:=mem_ready.1 hi
  have:(i,o)∈restOf listed (ordL conf ops.toList):=by
   unfold restOf
   rw [List.mem_filter]
   exact ⟨hin _ _ h2,by simp [h1]⟩
  rw [h0] at this
  cases this
 | succ fuel ih =>
  intro listed a w e h G acc s hsz hcl hlen hr
  refine ⟨fun h0 => ?_,fun i hi => ?_⟩
  · have h1:=empty listed hsz h0
    rw [h1] at hr
    exact hq a w e h G s hr
  · obtain ⟨h1,o,h2,h3⟩:=mem_ready.1 hi
    have hmem:(i,o)∈restOf listed (ordL conf ops.toList):=by
     unfold restOf
     rw [List.mem_filter]
     exact ⟨hin _ _ h2,by simp [h1]⟩
    obtain ⟨A,C,e1⟩:=List.append_of_mem hmem
    have hpA:=hR listed
    rw [e1] at hpA
    have hAi:∀ q∈A,relOK cx.tab ops conf M q (i,o)=true:=fun q hq=>(List.pairwise_append.1 hpA).2.2 q hq (i,o) (by simp)
    have hCi:∀ q∈C,relOK cx.tab ops conf M (i,o) q=true:=fun q hq=>(List.pairwise_cons.1 (List.pairwise_append.1 hpA).2.1).1 q hq
    have e2:restOf (listed.setIfInBounds i true) (ordL conf ops.toList)=A++C:=by
     rw [zq2,e1,List.filter_append,List.filter_cons]
     have f1:∀ {B:List (Nat×Oper)},(∀ q∈B,q.1≠i)→B.filter (fun p => !Nat.beq p.1 i)=B:=fun hB=>by
      rw [List.filter_eq_self]
      intro q hq
      have:Nat.beq q.1 i=false:=by
       cases hb:Nat.beq q.1 i
       · rfl
       · exact absurd (nbeq.1 hb) (hB q hq)
      rw [this]; rfl
     rw [f1 (fun q hq=>(relD (hAi q hq)).1),f1 (fun q hq=>((relD (hCi q hq)).1).symm)]
     simp
    have hlis:∀ j,Nat.testBit ((nth M i).getD 0) j=true→listed.getD j true=true:=by
     intro j hj
     rw [(hedge i o h2).2] at hj
     obtain ⟨ed,d1,d2,d3⟩:=zq4 hj
     have hl:=h3 ed (by simpa using d1) d2
     have hl':listed.getD ed.on true=true:=by
      simp only [Array.getD_eq_getD_getElem?] at hl ⊢
      cases hq:listed[ed.on]? with
      | none=>rfl
      | some b=>rw [hq] at hl; exact hl
     rcases d3 with d3 | d3
     · rw [← d3]; exact hl'
     · have hlt:=(hedge i o h2).1 ed d1 d2
       have hil:i<ops.size:=(Array.getElem?_eq_some_iff.1 h2).1
       exact hcl ed.on _ (Array.getElem?_eq_getElem (by omega)) hl' j d3
    have hA:∀ q∈A,inConf q.1 q.1 conf=false∧q.2.apart ops o=true∧(inConf i i conf=true→kindD cx.tab q.2=0∨(kindD cx.tab q.2=1∧inConf q.1 i conf=true))∧(inConf i i conf=false→pairOK conf q.1 i (kindD cx.tab q.2) (kindD cx.tab o)=true):=fun q hq=>by
     rcases (relD (hAi q hq)).2.2 with h5 | h5
     · exfalso
       have h6:=hlis q.1 h5
       have h7:q∈restOf listed (ordL conf ops.toList):=by rw [e1]; simp [hq]
       unfold restOf at h7
       rw [List.mem_filter] at h7
       simp [h6] at h7
     · exact h5
    have hcl':Closed ops M (listed.setIfInBounds i true):=fun q oq hq hlq j hj=>by
     rw [zf6]
     rw [zf6] at hlq
     split
     · rfl
     · by_cases eq:q=i
       · subst eq
         exact hlis j hj
       · rw [if_neg eq] at hlq
         exact hcl q oq hq hlq j hj
    have hlen':(restOf (listed.setIfInBounds i true) (ordL conf ops.toList)).length≤fuel:=by
     rw [e2]
     rw [e1] at hlen
     simp only [List.length_append,List.length_cons] at hlen ⊢
     omega
    rw [e1] at hr
    cases hbig:inConf i i conf with
    | false =>
     obtain ⟨v,f,en,f1,f2,f3,f4,f5⟩:=front hk hbig A e h acc hr (fun q hq=>⟨(hA q hq).1,(hA q hq).2.1,(hA q hq).2.2.2 hbig⟩)
     obtain ⟨e3',he3,hst⟩:=f4 e h acc (fun e h _=>opsD cx conf O N Y nb ops.toList (A++C) e h (push i en acc) k) (fun _ _=>rfl) f1 f3
     refine zm7 (nb:=nb) (conf:=conf) (acc:=acc) (k:=fun e h _=>opsD cx conf O N Y nb ops.toList (A++C) e h (push i en acc) k) hT hC hO hY h2 s (r:=r) ?_ fun a' w' e' h' G' acc' s' hk' => ?_
     · rw [hst,zbd hk _ _ _ _ _ (he3.pute _ _)]
       exact f5
     · exact ih _ a' w' e' h' G' _ s' (by simpa using hsz) hcl' hlen' (by rw [e2]; exact hk')
    | true =>
     obtain ⟨hg,k1,f1,f2⟩:=zic hk hbig A e h acc hr (fun q hq=>⟨(hA q hq).1,(hA q hq).2.1,(hA q hq).2.2.1 hbig⟩)
     unfold wpOpIn
     rw [h2]
     simp only
     rw [if_pos (by simp [Region.wanted,hg])]
     refine zf5 hT hC hO hY s f1 fun v w' hE => ?_
     obtain ⟨av,G',h',hx,hkp,st,hv,hk'⟩:=hE
     obtain ⟨g1,_,g3⟩:=f2 av h' hk'
     obtain ⟨e',s',hk''⟩:=(s.step hx hkp st).put (e':=e) (d:=o.dst) (k:=fun e=>opsD cx conf O N Y nb ops.toList (A++C) e h' acc k) (r:=r) hv (by rw [zej g1]; exact g3)
     exact ih _ _ w' e' h' G' acc s' (by simpa using hsz) hcl' hlen' (by rw [e2]; exact hk'')
theorem zq5 {a:Act} {w:World} {e:Env} {h:H} {G:GS} (s:Rel B0 w0 N G0 wb ρ a w e h G):Rel B0 w0 N G0 wb ρ a { w with drawn:=w.drawn+1 } e h G:=by
 have hg:w.grownBy { w with drawn:=w.drawn+1 } none:=⟨rfl,rfl,rfl,Nat.le_refl _,fun _ _ _=>rfl⟩
 exact s.step (Ext.refl (Base.le_refl _)) (fun _ _ _=>rfl) (s.st.grown0 hg)
theorem zjw:∀ (a b:Env) (t:Nat),get (appE a b) t=if (a.map (·.1)).contains t then get a t else get b t
 | [],b,t=>by simp [appE]
 | (d,v)::a,b,t=>by
  simp only [appE,zbx,zjw a b t,List.map_cons,List.contains_cons]
  by_cases h:d=t
  · subst h; simp
  · rw [if_neg h]
    have:(t==d)=false:=by simp; exact fun e=>h e.symm
    rw [this,Bool.false_or]
    simp only [if_neg h]
theorem zid:∀ (lv:List Nat) (e:Env) (t:Nat),t∈lv→get (live lv e) t=get e t
 | [],e,t,h=>by simp at h
 | d :: lv,e,t,h=>by
  simp only [live,List.map_cons,zbx]
  by_cases hd:d=t
  · subst hd; simp
  · rw [if_neg hd]
    exact zid lv e t (by simpa [Ne.symm hd] using h)
open Classical in
noncomputable def onlyIf (J:Env→Prop) (k:Env→H→Option X):Env→H→Option X:=fun e h=>if J e then k e h else none
theorem zm8 {J:Env→Prop} (hJ:∀ e e',GetEq e e'→J e→J e') {k:Env→H→Option X} (hk:Ins k):Ins (onlyIf J k):=fun e e' h he=>by
 unfold onlyIf
 by_cases h1:J e
 · rw [if_pos h1,if_pos (hJ _ _ he h1),hk e e' h he]
 · rw [if_neg h1,if_neg (fun h2=>h1 (hJ _ _ he.symm h2))]
theorem zlh {J:Env→Prop} {k:Env→H→Option X} {e:Env} {h:H} {r:X} (hr:onlyIf J k e h=some r):J e∧k e h=some r:=by
 unfold onlyIf at hr
 split at hr
 · rename_i h1; exact ⟨h1,hr⟩
 · cases hr
theorem zov {J:Env→Prop} (hJ:∀ e e',GetEq e e'→J e→J e') {k:Env→H→Option X} (hk:Ins k):∀ (os:List (Nat×Oper)),(∀ p∈os,∀ e v,J e→J (pute e p.2.dst v))→∀ (e e':Env) (h:H) (acc:List (Nat×Nat)),J e→GetEq e e' →
 opsD cx conf O N Y nb ops.toList os e h acc (onlyIf J k)=opsD cx conf O N Y nb ops.toList os e' h acc k
 | [],_,e,e',h,acc,hj,he=>by
  simp only [opsD]
  unfold onlyIf
  rw [if_pos hj]
  exact hk e e' h he
 | (i,o)::os,hd,e,e',h,acc,hj,he=>by
  simp only [opsD]
  exact zgr (J:=J) (hd (i,o) (by simp)) hJ (fun e e' h acc hj he=>zov hJ hk os (fun p hp=>hd p (by simp [hp])) e e' h acc hj he) he hj h acc
theorem zjx:∀ {l:List Oper} {o:Oper} {d:Nat},o∈l→o.dst=some d→d∈dstsOf l
 | [],o,d,h,_=>by simp at h
 | b :: l,o,d,h,hd=>by
  simp only [dstsOf]
  rcases List.mem_cons.1 h with rfl | h
  · rw [hd]; simp
  · have:=zjx h hd
    split
    · exact List.mem_cons_of_mem _ this
    · exact this
theorem zli (hmix:P.follows .mixedOrders=true) (hT:TabOK P cx.tab) (hC:(∀ g orc,cx.C g=some orc→OrcOK P (Below B0 w0.w) g orc)∧∀ g p,cx.pr g=some p→PrOK P (Below B0 w0.w) g p) (hO:OpenOK P B0 w0 cx O) (hY:YOK cx Y G0 wb) {M:List Nat} (hok:drawOK cx.tab ops conf M=true) (id:Nat) {k:Env→H→Option X} {r:X} {Q:Exit→Act→World→Prop}
 (hq:∀ a w e h G,Rel B0 w0 N G0 wb ρ a w e h G→k e h=some r→Q .normal a w) {a:Act} {w:World} {e:Env} {h:H} {G:GS} (s:Rel B0 w0 N G0 wb ρ a w e h G)
 (hk:drawA cx conf O N Y ops.toList e h k=some r):(Code.region id ops true).wpIn (FW ρ) 0 P Q a w:=by
 refine wpIn_region_any hmix ?_
 have all:restOf (Array.replicate ops.size false) (ordL conf ops.toList)=ordL conf ops.toList:=by
  unfold restOf
  rw [List.filter_eq_self]
  intro p hp
  have h1:=zdj (i:=p.1) (o:=p.2) hp
  have h2:p.1<ops.size:=by
   have:=(List.getElem?_eq_some_iff.1 h1).1
   simpa using this
  simp [Array.getD_eq_getD_getElem?,h2]
 have hlen:(ordL conf ops.toList).length=ops.size:=by
  unfold drawOK at hok
  simp only [Bool.and_eq_true,nbeq] at hok
  exact hok.2.1
 have hins:Ins (fun e' h=>k (appE (live (dstsOf ops.toList) e') e) h):=by
  intro e1 e2 h he
  have:live (dstsOf ops.toList) e1=live (dstsOf ops.toList) e2:=List.map_congr_left fun t _=>by rw [he t]
  simp only [this]
 let J:Env→Prop:=fun e'=>∀ t,t∉dstsOf ops.toList→get e' t=get e t
 have hJ:∀ e e',GetEq e e'→J e→J e':=fun e1 e2 he hj t ht=>by rw [← he t]; exact hj t ht
 have hk':=(zov (nb:=h.bx.length) hJ hins (ordL conf ops.toList) (fun p hp e1 v hj t ht=>by
  rw [zy,if_neg]
  · exact hj t ht
  · intro hd
    exact ht (zjx (o:=p.2) (List.mem_of_getElem? (zdj (o:=p.2) hp)) hd)) e e { h with bx:=h.bx++holes (rankOf ops.toList ops.toList.length) } [] (fun _ _=>rfl) (GetEq.refl e)).trans hk
 obtain ⟨G1,hx1,st1⟩:=s.st.addHoles (rankOf ops.toList ops.toList.length)
 refine drawn (nb:=h.bx.length) (k:=onlyIf J fun e' h=>k (appE (live (dstsOf ops.toList) e') e) h) hT hC hO hY hok (zm8 hJ hins) ?_ ops.size (Array.replicate ops.size false) a _ e { h with bx:=h.bx++holes (rankOf ops.toList ops.toList.length) } G1 [] (zq5 (s.step hx1 (Keep.refl _ _) st1)) (by simp) ?_ (by rw [all,hlen]; exact Nat.le_refl _) (by rw [all]; exact hk')
 · intro a1 w1 e1 h1 G1 s1 hr
   obtain ⟨hj,hr⟩:=zlh hr
   refine hq a1 w1 _ h1 G1 ⟨⟨s1.env.size,fun t => ?_⟩,s1.st,s1.ext,s1.keep,s1.dfs⟩ hr
   have hmap:(live (dstsOf ops.toList) e1).map (·.1)=dstsOf ops.toList:=by
    unfold live
    rw [List.map_map]
    exact List.map_id _
   rw [zjw,hmap]
   split
   · rename_i hc
     rw [zid _ _ _ (by simpa using hc)]
     exact s1.env.rep t
   · rename_i hc
     rw [← hj t (by simpa using hc)]
     exact s1.env.rep t
 · intro i o hi hl
   have h2:i<ops.size:=(Array.getElem?_eq_some_iff.1 hi).1
   simp [Array.getD_eq_getD_getElem?,h2] at hl
end
end Go.AM
set_option linter.unusedVariables false
set_option linter.unusedSimpArgs false
namespace Go.AM
open Go.RowKit
section
variable {P:Program} {F:Fence} {n:Nat} {b:Frame} {a:Act} {k:List Item} {cs:List Frame} {w:World} {Q:Exit→Act→World→Prop}
theorem zaw {c:Code}:step P (lone (b.atR a (.code (.scope c)::k)) cs w) = .next (lone (b.atR a (.code c :: .inScope c::k)) cs w):=
 step_lone_go (by simp [stepG,stepG.exec,Frame.atR])
theorem zhl {c:Code}:step P (lone (b.atR a (.inScope c::k)) cs w) = .next (lone (b.atR a k) cs w):=
 step_lone_go (by simp [stepG,stepG.exec,Frame.atR])
theorem zm9 {c:Code} (h:c.wpIn F n P (Exit.noGoto Q) a w):(Code.scope c).wpIn F n P Q a w:=by
 intro b k cs hro hb hr
 have h0:(lone (b.atR a (.code (.scope c)::k)) cs w).fenced P F:=fenced_calm hb hr rfl
 obtain ⟨e,a₁,w₁,hq,harr⟩:=h b (.inScope c::k) cs hro hb hr
 cases e with
 | normal=>exact ⟨.normal,a₁,w₁,hq,.head h0 zaw (StepsIn.trans harr (.one (fenced_calm hb hr rfl) zhl))⟩
 | exit id =>
  have hx:exitTo id (.inScope c::k)=exitTo id k:=by simp [exitTo]
  exact ⟨.exit id,a₁,w₁,hq,fun k' hk => .head h0 zaw (harr.1 k' (by rw [hx]; exact hk)),
   fun hr' hk=>let ⟨k₁,h1,h2⟩:=harr.2 hr' (by rw [hx]; exact hk); ⟨k₁,h1,.head h0 zaw h2⟩⟩
 | goto l=>exact hq.elim
 | ret=>exact ⟨_,a₁,w₁,hq,.of_steps (.one h0 zaw) harr⟩
 | panic ch=>exact ⟨_,a₁,w₁,hq,.of_steps (.one h0 zaw) harr⟩
 | outgrown=>exact ⟨_,a₁,w₁,hq,.of_steps (.one h0 zaw) harr⟩
end
section
variable {X:Type}
def LoopOK (cx:Cx X) (g N:Nat) (b:Code) (li:LoopI X):Prop:=
 ∃ (L:Nat→Ks X→li.head.den→Option X) (n:Nat),(∀ ks s,li.f ks s=L n ks s)∧(∀ ks s,L 0 ks s=none) ∧
  ∀ m ks s,L (m+1) ks s=exec cx (inl cx li.d) ⟨g,N,li.B,li.d⟩ (li.head.y s) b (loopKs li.B (li.head.y s) li.head li.exs li.rets (L m ks) ks) (li.head.e s) (li.head.h s)
def CutOK (cx:Cx X) (g N:Nat) (b:Code) (ci:CutI X):Prop:=
 ∀ ks s,ci.f ks s=exec cx (inl cx ci.d) ⟨g,N,ci.B,ci.d⟩ (ci.head.y s) b (cutKs ci.B ci.nxt ci.exs ci.rets ks) (ci.head.e s) (ci.head.h s)
def okC (cx:Cx X) (g N:Nat):Code→Prop
 | .seq a b=>okC cx g N a∧okC cx g N b∧∀ ci∈cutsAt cx g b,CutOK cx g N b ci
 | .cond _ a b=>okC cx g N a∧okC cx g N b
 | .block _ b=>okC cx g N b
 | .scope b=>okC cx g N b
 | .loop b=>okC cx g N b∧∀ li∈loopsAt cx g b,LoopOK cx g N b li
 | .rangeFunc _ ps aS b=>okC cx g N aS∧okC cx g N b∧∀ i,(match rid aS with | some i=>some i | none=>rid b)=some i→∃ lv,cx.rfs g i=some (N,lv,ps.toList,aS,b)
 | .region i ops dr=>dr=true→drawOK cx.tab ops (cx.conf g i) (masks ops.toList [])=true
 | _=>True
structure CxOK (P:Program) (W:World→Prop) (cx:Cx X):Prop where
 mixed:P.follows .mixedOrders=true
 tab:TabOK P cx.tab
 C:(∀ g orc,cx.C g=some orc→OrcOK P W g orc)∧∀ g p,cx.pr g=some p→PrOK P W g p
 fns : ∀ g fn, cx.fns g = some fn → P.funcs[g]? = some fn ∧ fn.name ≠ "runtime.NumGoroutine"
 code:∀ g fn c,cx.fns g=some fn→fn.body=some c→okC cx g fn.ntmps c
 rfs:∀ g i N lv ps aS b,cx.rfs g i=some (N,lv,ps,aS,b)→okC cx g N aS∧okC cx g N b
theorem zep {fm:Fm} {Y:Ys} {ks:Ks X} {e:Env} {h:H} {r:X}:∀ {l:List (LoopI X)},tryL fm Y ks e h l=some r→∃ li∈l,li.d=fm.d∧li.B=fm.B∧∃ s,li.head.fit fm.B Y e h=some s∧li.f ks s=some r
 | [],hk=>by simp [tryL] at hk
 | li::l,hk=>by
  simp only [tryL] at hk
  cases hc:(Nat.beq li.d fm.d&&li.B.beq fm.B) with
  | false =>
   rw [hc] at hk
   obtain ⟨li',hm,rest⟩:=zep hk
   exact ⟨li',by simp [hm],rest⟩
  | true =>
   rw [hc] at hk
   simp only [cond_true] at hk
   split at hk
   · rename_i s hs
     simp only [Bool.and_eq_true,nbeq,Base.beq] at hc
     refine ⟨li,by simp,hc.1,?_,s,hs,hk⟩
     obtain ⟨_,⟨h1,h2⟩,h3⟩:=hc
     cases hb1:li.B
     cases hb2:fm.B
     rw [hb1,hb2] at h1 h2 h3
     simp only at h1 h2 h3
     rw [h1,h2,h3]
   · obtain ⟨li',hm,rest⟩:=zep hk
     exact ⟨li',by simp [hm],rest⟩
theorem zeq {fm:Fm} {Y:Ys} {ks:Ks X} {e:Env} {h:H} {r:X}:∀ {l:List (CutI X)},tryC fm Y ks e h l=some r→∃ li∈l,li.d=fm.d∧li.B=fm.B∧∃ s,li.head.fit fm.B Y e h=some s∧li.f ks s=some r
 | [],hk=>by simp [tryC] at hk
 | li::l,hk=>by
  simp only [tryC] at hk
  cases hc:(Nat.beq li.d fm.d&&li.B.beq fm.B) with
  | false =>
   rw [hc] at hk
   obtain ⟨li',hm,rest⟩:=zeq hk
   exact ⟨li',by simp [hm],rest⟩
  | true =>
   rw [hc] at hk
   simp only [cond_true] at hk
   split at hk
   · rename_i s hs
     simp only [Bool.and_eq_true,nbeq,Base.beq] at hc
     refine ⟨li,by simp,hc.1,?_,s,hs,hk⟩
     obtain ⟨_,⟨h1,h2⟩,h3⟩:=hc
     cases hb1:li.B
     cases hb2:fm.B
     rw [hb1,hb2] at h1 h2 h3
     simp only at h1 h2 h3
     rw [h1,h2,h3]
   · obtain ⟨li',hm,rest⟩:=zeq hk
     exact ⟨li',by simp [hm],rest⟩
section
variable {P:Program} {cx:Cx X} {d:Nat} {B0:Nat} {w0:Wd} {N:Nat} {G0:GS} {wb:World} {ρ:Option Nat} {g:Nat} {Y:Ys}
theorem zgv (hx:CxOK P (Below B0 w0.w) cx) (hO:OpenOK P B0 w0 cx (inl cx d)) (hρ:∀ l,ρ=some l→∃ (j:Nat) (p:LpG),G0.lp[j]? = some p∧p.l=l) (hY:YOK cx Y G0 wb) {f:Operand} {ps:Array Tmp} {aS b:Code}
 (hrf:∀ i,(match rid aS with | some i=>some i | none=>rid b)=some i→∃ lv,cx.rfs g i=some (N,lv,ps.toList,aS,b)) {ks:Ks X} {r:X} {Q:Exit→Act→World→Prop} (hks:KsOK B0 w0 N G0 wb ρ ks r Q) {a:Act} {w:World} {e:Env} {h:H} {G:GS}
 (s:Rel B0 w0 N G0 wb ρ a w e h G) (hk:exec cx (inl cx d) ⟨g,N,G0.base,d⟩ Y (.rangeFunc f ps aS b) ks e h=some r):(Code.rangeFunc f ps aS b).wpIn (FW ρ) 0 P Q a w:=by
 simp only [exec] at hk
 have hfa:=s.env.ev f
 split at hk
 · rename_i gf first cap i hev hi
   rw [hev] at hfa
   obtain ⟨lv,hrf⟩:=hrf i hi
   rw [hrf] at hk
   simp only at hk
   have henvl:∀ {w':World} {G':GS},EnvR w' G' N a.tmps e→EnvR w' G' N a.tmps (live lv e):=fun h=>zjk (lv:=[]) (e:=[]) (t:=0) h.size fun p hp=>by
    simp only [live,List.mem_map] at hp
    obtain ⟨t,_,rfl⟩:=hp
    exact h.rep t
   refine wpIn_rangeFunc fun fn _ => ?_
   obtain ⟨l,mark,w1,rec,G1,henter,st1,hk1,hx1,hlp,hrec,hp1,hp2,hp3,hp4,hdf⟩:∃ (l:Nat) (mark:List Deferred) (w1:World) (rec:Loop) (G1:GS),
    (Instr.enterLoop fn a.tmps ps aS b (FW ρ).round).run P w = .ok (l,mark) w1∧St B0 w0 G1 { h with lp:=h.lp++[.ready] } w1∧Keep G.D w w1∧Ext G.base G.nd G1.nd∧G1.lp=G.lp++[⟨l,rec⟩]∧w1.heap[l]? = some (.loop rec) ∧
    rec.tmps=a.tmps∧rec.params=ps∧rec.assign=aS∧rec.body=b∧(∃ ms,mark=ms.map dfMark∧G1.df=ms++G.df∧(ρ≠none→ms=[])):=by
    cases hr:ρ with
    | none =>
     obtain ⟨s1,k1⟩:=s.st.newDf
     obtain ⟨s2,k2,x2⟩:=s1.newLoop (rec:={ state:=.ready,pending:=none,fn,tmps:=a.tmps,params:=ps,assign:=aS,body:=b,defers:=w.heap.size }) rfl rfl
     refine ⟨_,_,_,{ state:=.ready,pending:=none,fn,tmps:=a.tmps,params:=ps,assign:=aS,body:=b,defers:=w.heap.size },_,run_enterLoop_outer _ _ _ _ _,s2,k1.trans (fun _ _ x=>x) k2,x2.nd,?_,?_,rfl,rfl,rfl,rfl,[w.heap.size],rfl,rfl,fun h=>absurd rfl h⟩
     · simp
     · have:=World.alloc_heap_new (w.alloc (.deferred (some []))) (.loop { state:=.ready,pending:=none,fn,tmps:=a.tmps,params:=ps,assign:=aS,body:=b,defers:=w.heap.size })
       rwa [World.size_alloc] at this
    | some l0 =>
     obtain ⟨j0,p0,hj0,hl0⟩:=hρ l0 hr
     have hj0':G.lp[j0]? = some p0:=(s.ext.lp j0 (List.getElem?_eq_some_iff.1 hj0).1).trans hj0
     have hjl:j0<h.lp.length:=by rw [s.st.lpl]; exact (List.getElem?_eq_some_iff.1 hj0').1
     obtain ⟨_,rec0,hrec0,_⟩:=s.st.loop j0 p0 _ hj0' (List.getElem?_eq_getElem hjl)
     rw [hl0] at hrec0
     obtain ⟨s2,k2,x2⟩:=s.st.newLoop (rec:={ state:=.ready,pending:=none,fn,tmps:=a.tmps,params:=ps,assign:=aS,body:=b,defers:=rec0.defers }) rfl rfl
     exact ⟨_,_,_,{ state:=.ready,pending:=none,fn,tmps:=a.tmps,params:=ps,assign:=aS,body:=b,defers:=rec0.defers },_,run_enterLoop_inner hrec0 _ _ _ _ _,s2,k2,x2.nd,rfl,World.alloc_heap_new w _,rfl,rfl,rfl,rfl,[],rfl,rfl,fun _=>rfl⟩
   have hlen:h.lp.length=G.lp.length:=s.st.lpl
   have hp0:G1.lp[h.lp.length]? = some ⟨l,rec⟩:=by rw [hlp,hlen]; simp
   generalize hfv:a.eval f=fv at hfa
   cases hfa with
   | fn _ x y _ _ hx' h1 hy' h2 =>
    have envG1:EnvR w1 G1 N a.tmps e:=zhk s.env hx1 hk1
    have hY1:YOK cx ((h.lp.length,⟨g,i,live lv e⟩)::Y) G1 w1:=by
     intro j hd hl
     simp only [lookY] at hl
     by_cases ej:h.lp.length=j
     · subst ej
       rw [nbeq.2 rfl] at hl
       simp only [cond_true,Option.some.injEq] at hl
       subst hl
       exact ⟨_,hp0,N,_,_,_,_,hrf,by rw [hp2],hp3,hp4,by rw [hp1]; exact henvl envG1⟩
     · have:Nat.beq h.lp.length j=false:=by
        cases hb:Nat.beq h.lp.length j
        · rfl
        · exact absurd (nbeq.1 hb) ej
       rw [this] at hl
       simp only [cond_false] at hl
       exact (hY.go s.ext s.keep).go hx1 hk1 j hd hl
    have hvals:RepL w1 G1 (x++#[Value.func (.yield l) #[] #[]]++y).toList (first++[AV.yield h.lp.length]++cap):=by
     rw [Array.toList_append,Array.toList_append]
     have t1:RepL w G x.toList first:=⟨by simpa using hx',fun i v c hv hc=>h1 i v c (by simpa using hv) hc⟩
     have t2:RepL w G y.toList cap:=⟨by simpa using hy',fun i v c hv hc=>h2 i v c (by simpa using hv) hc⟩
     have mv:∀ {vs:List Value} {cs:List AV},RepL w G vs cs→RepL w1 G1 vs cs:=fun t=>⟨t.1,fun i v c hv hc=>zh9 ((zor (t.2 i v c hv hc)).mono (G:=G.nd) (G':=G1.nd) hx1 hk1)⟩
     exact ((mv t1).append (.cons (.yield _ ⟨l,rec⟩ hp0) .nil)).append (mv t2)
    obtain ⟨hcf,hcall⟩:=hO.call gf _ _ _ _ r hk G1 w1 _ st1 hY1 hvals
    have hpost:∀ (e':Ending) (w':World),EndsC B0 w0 G1 w1 (fun _ h'=>match nth h'.lp h.lp.length with
     | some .ready=>ks.nxt e (setLp h' h.lp.length .busy)
     | some (.done .ret)=>ks.ret e (setLp h' h.lp.length .busy)
     | some (.done (.ex i))=>bif Nat.blt i PAN then ks.ex i e (setLp h' h.lp.length .busy) else none
     | _=>none) r e' w'→rangePost (FW ρ) 0 P l Q { a with defers:=mark++a.defers } e' w':=by
     intro e' w' hR
     cases e' with
     | panicked ch=>exact hR.elim
     | outgrown=>exact hR.elim
     | returned v =>
      obtain ⟨av,G',h',hxE,hkE,stE,hvE,hkk⟩:=hR
      have hpG:G'.lp[h.lp.length]? = some ⟨l,rec⟩:=(hxE.lp h.lp.length (List.getElem?_eq_some_iff.1 hp0).1).trans hp0
      have hjl:h.lp.length<h'.lp.length:=by rw [stE.lpl]; exact (List.getElem?_eq_some_iff.1 hpG).1
      obtain ⟨hB,rec',hrec',hsame,hls⟩:=stE.loop h.lp.length ⟨l,rec⟩ _ hpG (List.getElem?_eq_getElem hjl)
      simp only [zl,List.getElem?_eq_getElem hjl] at hkk
      have fin:∀ (jump:Option Code),rec'.state ≠ .busy→rec'.pending=jump→∃ w4,(Instr.endLoop l).run P w' = .ok jump w4∧Rel B0 w0 N G0 wb ρ { a with defers:=mark++a.defers } w4 e (setLp h' h.lp.length .busy) G':=by
       intro jump hb hj
       obtain ⟨st4,hk4⟩:=stE.setLoop (rec':={ rec' with state:=.exhausted }) (st:=.busy) hpG hrec' hB hsame trivial
       refine ⟨_,by rw [← hj]; exact run_endLoop hrec' hb,?_⟩
       refine ⟨?_,st4,?_,?_,?_⟩
       · have:=envG1.mono hxE hkE
         exact this.mono (Ext.refl (Base.le_refl _)) hk4
       · have b1:G.base.le G1.base:=zad (G0:=G.nd) (G:=G1.nd) hx1
         exact (s.ext.trans (hx1.mono s.base)).trans (hxE.nd.mono (Base.le_trans s.base b1))
       · have t1:=s.keep.trans s.ext.D hk1
         have t2:=t1.trans (fun b o q=>hx1.D b o (s.ext.D b o q)) hkE
         exact t2.trans (fun b o q=>hxE.D b o (hx1.D b o (s.ext.D b o q))) hk4
       · obtain ⟨ds,d1,d2,d3⟩:=s.dfs
         obtain ⟨ms,m1,m2,m3⟩:=hdf
         exact ⟨ms++ds,by simp [d1,m1],by rw [hxE.df,m2,d2,List.append_assoc],fun hn=>by rw [m3 hn,d3 hn]; rfl⟩
      simp only [rangePost]
      split at hkk
      · rename_i hls'
        obtain ⟨w4,hend,hrel⟩:=fin none (by
         have:LsOK rec' .ready:=by rw [← Option.some.inj hls']; exact hls
         rw [this.1]; simp) (by
         have:LsOK rec' .ready:=by rw [← Option.some.inj hls']; exact hls
         exact this.2)
        exact ⟨none,w4,hend,hks.nxt _ _ _ _ _ hrel hkk⟩
      · rename_i hls'
        have hL:LsOK rec' (.done .ret):=by rw [← Option.some.inj hls']; exact hls
        obtain ⟨w4,hend,hrel⟩:=fin (some .ret) (by rw [hL.1]; simp) hL.2
        exact ⟨some .ret,w4,hend,wpIn_ret (hks.ret _ _ _ _ _ hrel hkk)⟩
      · rename_i ii hls'
        have hL:LsOK rec' (.done (.ex ii)):=by rw [← Option.some.inj hls']; exact hls
        obtain ⟨w4,hend,hrel⟩:=fin (some (.exit ii)) (by rw [hL.1]; simp) hL.2
        obtain ⟨hiP,hkk⟩:=zb hkk
        exact ⟨some (.exit ii),w4,hend,wpIn_exit (hks.ex _ _ _ _ _ _ (nblt.1 hiP) hrel hkk)⟩
      · cases hkk
    have hres:(resolve a.eval (rangeCall f l) 0).run P w1 = .ok { target:=.fn (.func gf) y,args:=x++#[Value.func (.yield l) #[] #[]] } w1:=by
     simp only [resolve,hfv]
     simp [Deferred.ofValue,Act.eval]
    have hcall':CallsIn (FW ρ) 0 P gf (x++#[Value.func (.yield l) #[] #[]]++y) w1 (rangePost (FW ρ) 0 P l Q { a with defers:=mark++a.defers }):=CallsIn.mono (F:=FW ρ) (n:=0) hcall hpost
    exact ⟨l,mark,w1,{ target:=.fn (.func gf) y,args:=x++#[Value.func (.yield l) #[] #[]] },w1,gf,x++#[Value.func (.yield l) #[] #[]]++y,w1,henter,hres,fun _ _=>trivial,hcf,(fun h=>by cases h),hcall'⟩
 · cases hk
theorem zb3 (hx:CxOK P (Below B0 w0.w) cx) (hO:OpenOK P B0 w0 cx (inl cx d)) (hρ:∀ l,ρ=some l→∃ (j:Nat) (p:LpG),G0.lp[j]? = some p∧p.l=l) (hY:YOK cx Y G0 wb) {r:X}:∀ (c:Code),okC cx g N c→∀ (ks:Ks X) (Q:Exit→Act→World→Prop),KsOK B0 w0 N G0 wb ρ ks r Q →
 ∀ (a:Act) (w:World) (e:Env) (h:H) (G:GS),Rel B0 w0 N G0 wb ρ a w e h G→exec cx (inl cx d) ⟨g,N,G0.base,d⟩ Y c ks e h=some r→c.wpIn (FW ρ) 0 P Q a w:=by
 intro c
 induction c with
 | skip=>exact fun _ ks Q hks a w e h G s hk=>wpIn_skip (hks.nxt _ _ _ _ _ s hk)
 | label l=>exact fun _ ks Q hks a w e h G s hk=>wpIn_label (hks.nxt _ _ _ _ _ s hk)
 | exit i=>exact fun _ ks Q hks a w e h G s hk=>wpIn_exit (hks.ex _ _ _ _ _ _ (nblt.1 (zb (by simpa only [exec] using hk)).1) s (zb (by simpa only [exec] using hk)).2)
 | ret=>exact fun _ ks Q hks a w e h G s hk=>wpIn_ret (hks.ret _ _ _ _ _ s hk)
 | refuse _=>exact fun _ ks Q hks a w e h G s hk=>by simp [exec] at hk
 | goto l=>exact fun _ ks Q hks a w e h G s hk=>by simp [exec] at hk
 | region id ops dr =>
  intro hok ks Q hks a w e h G s hk
  cases dr with
  | false =>
   refine wpIn_region ?_
   have:=zgs (ρ:=ρ) hx.tab hx.C hO hY ops hks.nxt (fun T q p a w e h G hq s hv hk=>by
    obtain ⟨hnb,hk⟩:=zb hk
    rw [Nat.mul_add_mod,Nat.mod_eq_of_lt hq] at hnb
    have hlt:q<G0.bx.length:=nblt.1 hnb
    cases hv with
    | ref _ _ b hb h0 =>
     refine hks.pan T q b a w e h G hq s ?_ hk
     rcases s.ext.bx q hlt with ⟨h1,_⟩ | ⟨h1,h2,_⟩ | ⟨h1,_,_⟩
     · have h1':G.bx[q]? = G0.bx[q]?:=h1
       exact .inl (by rw [← h1']; exact hb)
     · exact absurd h2 (by show ¬ _<(G.bv q).v; omega)
     · exact .inr h1) ops.toList 0 rfl a w e h G s hk
   rw [List.range_eq_range',← Array.length_toList]
   exact this
  | true=>exact zli hx.mixed hx.tab hx.C hO hY (hok rfl) id hks.nxt s hk
 | cond c a b iha ihb =>
  intro hok ks Q hks act w e h G s hk
  simp only [okC] at hok
  simp only [exec] at hk
  split at hk
  · rename_i v hv
    have hc:=s.env.ev c
    rw [hv] at hc
    refine wpIn_cond_split (zah hc) (fun hb => ?_) (fun hb => ?_)
    · subst hb
      exact iha hok.1 ks Q hks act w e h G s hk
    · subst hb
      exact ihb hok.2 ks Q hks act w e h G s hk
  · cases hk
 | block i b ih =>
  intro hok ks Q hks a w e h G s hk
  refine wpIn_block (ih hok { ks with ex:=fun j e h=>bif Nat.beq j i then bif Nat.blt j PAN then ks.nxt e h else none else ks.ex j e h } (Exit.inBlock i Q) ⟨hks.nxt,fun j a w e h G hjP s hk => ?_,hks.ret,fun T q b a w e h G hq s hb hk => ?_⟩ a w e h G s hk)
  case refine_2 =>
   simp only at hk
   cases hj:Nat.beq (PAN*(T+1)+q) i with
   | false=>rw [hj,cond_false] at hk; exact hks.pan T q b a w e h G hq s hb hk
   | true =>
    rw [hj,cond_true] at hk
    obtain ⟨h1,_⟩:=zb hk
    have:=nblt.1 h1
    unfold PAN at this
    omega
  simp only at hk
  by_cases hj:j=i
  · subst hj
    rw [nbeq.2 rfl,cond_true] at hk
    obtain ⟨_,hk⟩:=zb hk
    simp only [Exit.inBlock,if_true]
    exact hks.nxt _ _ _ _ _ s hk
  · have:Nat.beq j i=false:=by
     cases hb:Nat.beq j i
     · rfl
     · exact absurd (nbeq.1 hb) hj
    rw [this] at hk
    simp only [Exit.inBlock,hj,if_false]
    exact hks.ex _ _ _ _ _ _ hjP s hk
 | scope b ih =>
  intro hok ks Q hks a w e h G s hk
  exact zm9 (ih hok ks (Exit.noGoto Q) ⟨hks.nxt,hks.ex,hks.ret,hks.pan⟩ a w e h G s hk)
 | seq c1 c2 ih1 ih2 =>
  intro hok ks Q hks a w e h G s hk
  obtain ⟨ok1,ok2,okc⟩:=hok
  refine wpIn_seq ?_
  simp only [exec] at hk
  split at hk
  · exact ih1 ok1 { ks with nxt:=exec cx (inl cx d) ⟨g,N,G0.base,d⟩ Y c2 ks } (Exit.then (c2.wpIn (FW ρ) 0 P Q) Q) ⟨fun a w e h G s hk=>ih2 ok2 ks Q hks a w e h G s hk,hks.ex,hks.ret,hks.pan⟩ a w e h G s hk
  · rename_i c cs hcs
    refine ih1 ok1 { ks with nxt:=fun e h=>tryC ⟨g,N,G0.base,d⟩ Y ks e h (c::cs) } (Exit.then (c2.wpIn (FW ρ) 0 P Q) Q) ⟨fun a w e h G s hk => ?_,hks.ex,hks.ret,hks.pan⟩ a w e h G s hk
    obtain ⟨ci,hm,hd,hB,x,hf,hk⟩:=zeq hk
    obtain ⟨G',s',hy⟩:=s.fit hf
    have hc:=okc ci (by rw [hcs]; exact hm) ks x
    rw [hc,hd,hB,hy] at hk
    refine ih2 ok2 (cutKs G0.base ci.nxt ci.exs ci.rets ks) Q ⟨fun a w e h G s hk => ?_,fun i a w e h G hiP s hk => ?_,fun a w e h G s hk => ?_,fun T q b a w e h G hq s hb hk => ?_⟩ _ _ _ _ _ s' hk
    · simp only [cutKs] at hk
      obtain ⟨sh,x',hf,hk⟩:=zcf hk
      obtain ⟨G',s',hy'⟩:=s.fit hf
      exact hks.nxt _ _ _ _ _ s' hk
    · simp only [cutKs] at hk
      obtain ⟨sh,x',hf,hk⟩:=zbi hk
      obtain ⟨G',s',hy'⟩:=s.fit hf
      exact hks.ex _ _ _ _ _ _ hiP s' hk
    · simp only [cutKs] at hk
      obtain ⟨sh,x',hf,hk⟩:=zcf hk
      obtain ⟨G',s',hy'⟩:=s.fit hf
      exact hks.ret _ _ _ _ _ s' hk
    · simp only [cutKs] at hk
      obtain ⟨sh,x',hf,hk⟩:=zbi hk
      obtain ⟨G',s',hy'⟩:=s.fit hf
      exact hks.pan T q b _ _ _ _ _ hq s' hb hk
 | loop b ih =>
  intro hok ks Q hks a w e h G s hk
  obtain ⟨okb,okl⟩:=hok
  simp only [exec] at hk
  split at hk
  ·
   generalize unrollAt cx g b=n at hk
   refine wpIn_loop_rounds n ?_
   revert a w e h G
   induction n with
   | zero=>intro a w e h G s hk; simp [loopN] at hk
   | succ n ihn =>
    intro a w e h G s hk
    rw [roundsIn_succ]
    exact ih okb { ks with nxt:=loopN n fun k e h=>exec cx (inl cx d) ⟨g,N,G0.base,d⟩ Y b { ks with nxt:=k } e h } (Exit.then (Code.roundsIn (FW ρ) 0 P b Q n) Q) ⟨fun a w e h G s hk=>ihn a w e h G s hk,hks.ex,hks.ret,hks.pan⟩ a w e h G s hk
  · rename_i l ls hls
    obtain ⟨li,hm,hd,hB,x,hf,hk⟩:=zep hk
    obtain ⟨L,n,hL,hL0,hLs⟩:=okl li (by rw [hls]; exact hm)
    obtain ⟨G',s',hy⟩:=s.fit hf
    rw [hL] at hk
    simp only at hd hB
    refine wpIn_loop_rounds n ?_
    suffices claim:∀ (n:Nat) (a:Act) (w:World) (x:li.head.den),li.head.y x=Y→L n ks x=some r→∀ G,Rel B0 w0 N G0 wb ρ a w (li.head.e x) (li.head.h x) G→Code.roundsIn (FW ρ) 0 P b Q n a w from claim n a w x hy hk G' s'
    intro n
    induction n with
    | zero=>intro a w x hy hk G s; rw [hL0] at hk; cases hk
    | succ n ihn =>
     intro a w x hy hk G s
     rw [roundsIn_succ]
     rw [hLs,hd,hB,hy] at hk
     refine ih okb (loopKs G0.base Y li.head li.exs li.rets (L n ks) ks) (Exit.then (Code.roundsIn (FW ρ) 0 P b Q n) Q) ⟨fun a w e h G s hk => ?_,fun i a w e h G hiP s hk => ?_,fun a w e h G s hk => ?_,fun T q b a w e h G hq s hb hk => ?_⟩ a w _ _ G s hk
     · simp only [loopKs] at hk
       split at hk
       · rename_i x' hf
         obtain ⟨G',s',hy'⟩:=s.fit hf
         exact ihn _ _ x' hy' hk _ s'
       · cases hk
     · simp only [loopKs] at hk
       obtain ⟨sh,x',hf,hk⟩:=zbi hk
       obtain ⟨G',s',hy'⟩:=s.fit hf
       exact hks.ex _ _ _ _ _ _ hiP s' hk
     · simp only [loopKs] at hk
       obtain ⟨sh,x',hf,hk⟩:=zcf hk
       obtain ⟨G',s',hy'⟩:=s.fit hf
       exact hks.ret _ _ _ _ _ s' hk
     · simp only [loopKs] at hk
       obtain ⟨sh,x',hf,hk⟩:=zbi hk
       obtain ⟨G',s',hy'⟩:=s.fit hf
       exact hks.pan T q b _ _ _ _ _ hq s' hb hk
 | rangeFunc f ps aS b iha ihb =>
  intro hok ks Q hks a w e h G s hk
  exact zgv hx hO hρ hY hok.2.2 hks s hk
end
end
end Go.AM
set_option linter.unusedVariables false
set_option linter.unusedSimpArgs false
namespace Go.AM
open Go.RowKit
section
variable {X:Type} {P:Program} {cx:Cx X} {d:Nat}
def resRun (tmps:Array Value):ResultVar→Sem Value
 | .tmp t=>pure (tmps.getD t undef)
 | .cell a t=>do loadVar t (← asAddr (tmps.getD a undef))
theorem zow {w:World} {G:GS} {ti:TI} {h:H} {pv:Value} {pa r:AV} (hp:RepV w G pv pa) (hl:loadA ti pa h=some r):∃ ad,pv = .pointer (some ad):=by
 unfold loadA at hl
 split at hl
 · cases hp; exact ⟨_,rfl⟩
 · cases hp; exact ⟨_,rfl⟩
 · cases hl
theorem zd3 (hT:TabOK P cx.tab) {B0:Nat} {w0:Wd} {h:H} {w:World} {G:GS} (st:St B0 w0 G h w) {N:Nat} {tmps:Array Value} {e:Env} (he:EnvR w G N tmps e) :
 ∀ (rs:List ResultVar) (vs:List AV),ressA cx e h rs=some vs →
  ∃ us:List Value,(rs.mapM (resRun tmps)).run P w = .ok us w∧RepL w G us vs
 | [],vs,hk=>by
  simp only [ressA,Option.some.injEq] at hk
  subst hk
  exact ⟨[],by simp,.nil⟩
 | x :: rs,vs,hk=>by
  simp only [ressA] at hk
  split at hk
  · rename_i v hv
    split at hk
    · rename_i vs' hvs
      simp only [Option.some.injEq] at hk
      subst hk
      obtain ⟨us,h1,h2⟩:=zd3 hT st he rs vs' hvs
      cases x with
      | tmp t =>
       simp only [resA,Option.some.injEq] at hv
       subst hv
       refine ⟨tmps.getD t undef::us,?_,.cons (he.rep t) h2⟩
       simp only [List.mapM_cons,Sem.run_bind,Sem.run_pure,Result.andThen_ok,h1,resRun]
      | cell a t =>
       simp only [resA] at hv
       split at hv
       · rename_i ti hti
         have hp:=he.rep a
         obtain ⟨u,h3,h4⟩:=zfc (P:=P) st (hT t ti hti) hp hv
         refine ⟨u::us,?_,.cons h4 h2⟩
         obtain ⟨ad,hpv⟩:=zow hp hv
         have hl:(resRun tmps (.cell a t)).run P w = .ok u w:=by
          simp only [resRun,hpv]
          rw [hpv] at h3
          simpa [Instr.loadAt,Instr.sureAddr,asAddr] using h3
         simp only [List.mapM_cons,Sem.run_bind,Sem.run_pure,Result.andThen_ok,h1,hl]
       · cases hv
    · cases hk
  · cases hk
theorem zna {w:World} {G:GS} {us:List Value} {vs:List AV} (h:RepL w G us vs) (v:Value) (hv:v=if hh:us.toArray.size=1 then us.toArray[0] else .tuple us.toArray):RepV w G v (packA vs):=by
 subst hv
 by_cases h1:us.length=1
 · match us,vs,h with
   | [u],[x],h=>exact h.2 0 u x rfl rfl
   | [u],[],h=>have:=h.1; simp at this
   | [u],_::_::_,h=>have:=h.1; simp at this
   | [],_,_=>simp at h1
   | _::_::_,_,_=>simp at h1
 · rw [dif_neg (by simpa using h1)]
   have:packA vs = .tup vs:=by
    match vs,h with
    | [],_=>rfl
    | [x],h=>exact absurd (by simpa using h.1) h1
    | _::_::_,_=>rfl
   rw [this]
   exact .tup _ _ (by simpa using h.1) fun i v c hv hc=>h.2 i v c (by simpa using hv) hc
theorem zlj (hT:TabOK P cx.tab) {B0:Nat} {w0:Wd} {h:H} {w:World} {G:GS} (st:St B0 w0 G h w) {N:Nat} {tmps:Array Value} {e:Env} (he:EnvR w G N tmps e) {fn:Func} {vs:List AV} (hk:ressA cx e h fn.results.toList=some vs) :
 ∃ v,(results fn tmps).run P w = .ok v w∧RepV w G v (packA vs):=by
 obtain ⟨us,h1,h2⟩:=zd3 hT st he _ _ hk
 refine ⟨_,?_,zna h2 _ rfl⟩
 have e:results fn tmps=(do let vs ← fn.results.mapM (resRun tmps); pure (if h:vs.size=1 then vs[0] else .tuple vs)):=by
  unfold results
  congr 2
 rw [e,Array.mapM_eq_mapM_toList]
 simp only [Sem.run_bind,Sem.run_map,h1,Result.andThen_ok,Sem.run_pure]
theorem zox {B0:Nat} {w0:Wd} {w:World} {vs:List AV} {x:Value} {G:GS} {h:H} {k:List AV→H→Option X} {r:X} (s:St B0 w0 G h w) (hx:RepV w G x (packA vs)) (hk:frzL vs h k=some r) :
 ∃ vs' G' h',Ext G.base G G'∧St B0 w0 G' h' w∧RepV w G' x (packA vs')∧k vs' h'=some r:=by
 have tupcase:∀ (hx:RepV w G x (.tup vs)),vs.length≠1→∃ vs' G' h',Ext G.base G G'∧St B0 w0 G' h' w∧RepV w G' x (packA vs')∧k vs' h'=some r:=fun hx hne=>by
  cases hx with
  | tup us _ hl h1 =>
   obtain ⟨vs',G',h',e1,e2,e3,e4,e5⟩:=zch vs us.toList G h k r s ⟨by simpa using hl,fun i v c hv hc=>h1 i v c (by simpa using hv) hc⟩ hk
   refine ⟨vs',G',h',e1,e2,?_,e5⟩
   have:packA vs' = .tup vs':=by
    match vs',e4 with
    | [],_=>rfl
    | [a],e4=>exact absurd e4.symm hne
    | a::b::l,_=>rfl
   rw [this]
   exact .tup _ _ (by simpa using e3.1) fun i v c hv hc=>e3.2 i v c (by simpa using hv) hc
 match vs,hx,hk,tupcase with
 | [],hx,hk,tc=>exact tc hx (by simp)
 | [a],hx,hk,_ =>
  simp only [frzL] at hk
  obtain ⟨a',G1,h',e1,s1,r1,hk⟩:=zcg s hx hk
  exact ⟨[a'],G1,h',e1,s1,r1,hk⟩
 | a::b::l,hx,hk,tc=>exact tc hx (by simp)
theorem za6 (hT:TabOK P cx.tab) {B0:Nat} {w0:Wd} {N:Nat} {G0:GS} {wb:World} {fn:Func} {tmps:Array Value} {e:Env} {h:H} {k:AV→H→Option X} {r:X} {kp:Bool} (hk:fin cx kp fn k e h=some r) {R:Ending→World→Prop} (hR:∀ v w',Ends B0 w0 G0 wb k r v w'→R (.returned v) w') :
 ∀ (ds:List Nat) (w:World) (G:GS),EnvR w G N tmps e→St B0 w0 G h w→Ext G0.base G0.nd G.nd→Keep G0.D wb w→G.df=ds++G0.df→LeavesInM Fence.wide 0 P fn tmps R (ds.map dfMark) .returning w
 | [], w,G,he,st,hx,hkp,hd=>by
  simp only [List.map_nil,LeavesInM,LeavesIn]
  unfold fin at hk
  split at hk
  · rename_i vs hvs
    obtain ⟨v,h1,h2⟩:=zlj hT st he hvs
    cases kp with
    | true =>
     exact ⟨v,h1,hR v w ⟨packA vs,G,h,⟨hx.D,hx.bx,hx.tk,hx.lp,by simpa using hd⟩,hkp,st,h2,hk⟩⟩
    | false =>
    rw [cond_false] at hk
    obtain ⟨vs',G',h',e1,st',h2,hk⟩:=zox st h2 hk
    have hx':=hx.trans (e1.nd.mono (zad (G0:=G0.nd) (G:=G.nd) hx))
    exact ⟨v,h1,hR v w ⟨packA vs',G',h',⟨hx'.D,hx'.bx,hx'.tk,hx'.lp,by rw [e1.df]; simpa using hd⟩,hkp,st',h2,hk⟩⟩
  · cases hk
 | d::ds,w,G,he,st,hx,hkp,hd=>by
  simp only [List.map_cons,LeavesInM]
  refine ⟨by simp,.inl ⟨d,w.putObj d (.deferred none),rfl,run_takeDeferred (st.dfr d (by rw [hd]; simp)).2,?_⟩⟩
  obtain ⟨st',hk'⟩:=st.dropDf (d:=d) (ds:=ds++G0.df) (by rw [hd]; rfl)
  have hx':Ext G.base G.nd ({ G with df:=ds++G0.df }:GS).nd:=Ext.refl (G:=G.nd) (Base.le_refl _)
  refine za6 hT hk hR ds _ { G with df:=ds++G0.df } (zhk he hx' hk') st' hx (hkp.trans hx.D hk') rfl
theorem zer {B0:Nat} {w0:Wd} {G0:GS} {wb:World} {fn:Func} {tmps:Array Value} {h:H} {k:AV→H→Option X} {r:X} {T q b:Nat} (hk:k (.tup []) h=some r) (hb:G0.bx[q]? = some (some b)∨G0.bx[q]? = some none) :
 ∀ (ds:List Nat) (w:World) (G:GS),St B0 w0 G h w→Ext G0.base G0.nd G.nd→Keep G0.D wb w→G.df=ds++G0.df→LeavesInM Fence.wide 0 P fn tmps (EndsT B0 w0 T q G0 wb k r) (ds.map dfMark) (.panicking (stopE T (.pointer (some ⟨b,0,none⟩)))) w
 | [],w,G,st,hx,hkp,hd=>by
  simp only [List.map_nil,LeavesInM,LeavesIn]
  exact ⟨b,G,h,rfl,hb,⟨hx.D,hx.bx,hx.tk,hx.lp,by simpa using hd⟩,hkp,st,hk⟩
 | d::ds,w,G,st,hx,hkp,hd=>by
  simp only [List.map_cons,LeavesInM]
  refine ⟨by simp,.inl ⟨d,w.putObj d (.deferred none),rfl,run_takeDeferred (st.dfr d (by rw [hd]; simp)).2,?_⟩⟩
  obtain ⟨st',hk'⟩:=st.dropDf (d:=d) (ds:=ds++G0.df) (by rw [hd]; rfl)
  exact zer hk hb ds _ { G with df:=ds++G0.df } st' hx (hkp.trans hx.D hk') rfl
theorem zie:∀ (n:Nat) (l:List AV) (t:Nat),get (args0 n l) t=if n≤t then (l[t - n]?).getD .any else .any
 | n,[],t=>by simp [args0,get]
 | n,v :: vs,t=>by
  simp only [args0]
  rw [zc9,zie (n+1) vs t]
  by_cases h:n=t
  · subst h; simp
  · rw [if_neg h]
    by_cases h2:n≤t
    · rw [if_pos h2,if_pos (by omega)]
      rw [show t - n=(t - (n+1))+1 from by omega]
      simp
    · rw [if_neg h2,if_neg (by omega)]
theorem zif {w:World} {G:GS} {vals:Array Value} {aS:List AV} (h:RepL w G vals.toList aS) {N:Nat} (hN:aS.length≤N):EnvR w G N (vals++Array.replicate (N - vals.size) undef) (args0 0 aS):=by
 have hsz:vals.size=aS.length:=by simpa using h.1
 refine ⟨by simp; omega,fun t => ?_⟩
 rw [zie]
 simp only [Nat.zero_le,if_true,Nat.sub_zero]
 cases ha:aS[t]? with
 | none=>exact .any _
 | some c =>
  have ht:t<vals.size:=by rw [hsz]; exact (List.getElem?_eq_some_iff.1 ha).1
  have:(vals++Array.replicate (N - vals.size) undef).getD t undef=vals[t]:=by
   rw [Array.getD_eq_getD_getElem?,Array.getElem?_append_left ht,Array.getElem?_eq_getElem ht]
   rfl
  rw [this]
  exact h.2 t _ c (by simp [ht]) ha
theorem zes {B0:Nat} {w0:Wd} {h:H} {w:World} {G:GS} (st:St B0 w0 G h w) {N:Nat} {tmps:Array Value} {e:Env} (he:EnvR w G N tmps e) (ρ:Option Nat):Rel B0 w0 N G w ρ { tmps:=tmps,defers:=[] } w e h G:=
 ⟨he,st,Ext.refl (G:=G.nd) (Base.le_refl _),Keep.refl _ _,[],rfl,rfl,fun _=>rfl⟩
theorem zet {B0:Nat} {w0:Wd} {h:H} {w:World} {G:GS} (st:St B0 w0 G h w):baseOf h=G.base:=by
 simp only [baseOf,GS.base,st.bxl,st.lpl]
 rw [st.tkl]
 simp
theorem zgw {B0:Nat} {w0:Wd} (hx:CxOK P (Below B0 w0.w) cx) (hO:OpenOK P B0 w0 cx (inl cx d)) {g:Nat} {args:List AV} {Y:Ys} {h:H} {k:AV→H→Option X} {r:X} (hk:runA cx (inl cx d) d g args Y h k=some r) {G:GS} {w:World} {vals:Array Value}
 (st:St B0 w0 G h w) (hY:YOK cx Y G w) (ha:RepL w G vals.toList args):(callFunc g vals).run P w = .ok (.enter g vals) w∧CallsIn Fence.wide 0 P g vals w (EndsC B0 w0 G w k r):=by
 unfold runA at hk
 split at hk
 · rename_i fn hfn
   obtain ⟨hf,hname⟩:=hx.fns g fn hfn
   split at hk
   · rename_i c hb
     obtain ⟨hl,hk⟩:=zb hk
     simp only [nble] at hl
     refine ⟨?_,?_⟩
     · simp [callFunc,run_program,hf,hb,hname]
     · refine callsIn_of_wp_marks hf hb trivial ?_
       rw [zet st] at hk
       refine zb3 (ρ:=none) (B0:=B0) (w0:=w0) (G0:=G) (wb:=w) (N:=fn.ntmps) hx hO (fun l h=>by cases h) hY c (hx.code g fn c hfn hb) _ _ ?_ _ _ _ _ G (zes st (zif ha hl) none) hk
       refine ⟨fun a w' e h' G' s hk => ?_,fun i a w' e h' G' _ s hk=>(by simp at hk),fun a w' e h' G' s hk => ?_,fun T q b a w' e h' G' _ s _ hk=>(by simp at hk)⟩
       · obtain ⟨ds,d1,d2,_⟩:=s.dfs
         simp only [bodyPostM,d1]
         exact za6 hx.tab hk (fun v w' h=>h) ds w' G' s.env s.st s.ext s.keep d2
       · obtain ⟨ds,d1,d2,_⟩:=s.dfs
         simp only [bodyPostM,d1]
         exact za6 hx.tab hk (fun v w' h=>h) ds w' G' s.env s.st s.ext s.keep d2
   · cases hk
 · cases hk
theorem znb {B0:Nat} {w0:Wd} (hx:CxOK P (Below B0 w0.w) cx) (hO:OpenOK P B0 w0 cx (inl cx d)) {g:Nat} {args:List AV} {Y:Ys} {h:H} {k:AV→H→Option X} {r:X} {T q:Nat} (hk:runT cx (inl cx d) d T q g args Y h k=some r) {G:GS} {w:World} {vals:Array Value}
 (st:St B0 w0 G h w) (hY:YOK cx Y G w) (ha:RepL w G vals.toList args):(callFunc g vals).run P w = .ok (.enter g vals) w∧CallsIn Fence.wide 0 P g vals w (EndsT B0 w0 T q G w k r):=by
 unfold runT at hk
 split at hk
 · rename_i fn hfn
   obtain ⟨hf,hname⟩:=hx.fns g fn hfn
   split at hk
   · rename_i c hb
     obtain ⟨hl,hk⟩:=zb hk
     simp only [nble] at hl
     refine ⟨?_,?_⟩
     · simp [callFunc,run_program,hf,hb,hname]
     · refine callsIn_of_wp_marks hf hb trivial ?_
       rw [zet st] at hk
       refine zb3 (ρ:=none) (B0:=B0) (w0:=w0) (G0:=G) (wb:=w) (N:=fn.ntmps) hx hO (fun l h=>by cases h) hY c (hx.code g fn c hfn hb) _ _ ?_ _ _ _ _ G (zes st (zif ha hl) none) hk
       refine ⟨fun a w' e h' G' s hk => ?_,fun i a w' e h' G' hiP s hk => ?_,fun a w' e h' G' s hk => ?_,fun T' q' b a w' e h' G' hq s hb hk => ?_⟩
       · obtain ⟨ds,d1,d2,_⟩:=s.dfs
         simp only [bodyPostM,d1]
         exact za6 hx.tab hk (fun v w' h=>h) ds w' G' s.env s.st s.ext s.keep d2
       · have h1:=(zb hk).1
         simp only [Bool.and_eq_true,nbeq,nblt] at h1
         have h2:=h1.1
         unfold PAN at h2 hiP
         omega
       · obtain ⟨ds,d1,d2,_⟩:=s.dfs
         simp only [bodyPostM,d1]
         exact za6 hx.tab hk (fun v w' h=>h) ds w' G' s.env s.st s.ext s.keep d2
       · obtain ⟨h1,hk'⟩:=zb hk
         simp only [Bool.and_eq_true,nbeq,nblt] at h1
         obtain ⟨rfl,rfl⟩:T'=T∧q'=q:=by
          have h2:=h1.1
          have h3:=h1.2
          unfold PAN at h2 h3 hq
          omega
         obtain ⟨ds,d1,d2,_⟩:=s.dfs
         simp only [bodyPostM,d1]
         exact zer hk' hb ds w' G' s.st s.ext s.keep d2
   · cases hk
 · cases hk
theorem zeu {w:World} {G:GS} {N:Nat}:∀ (ps:List Tmp) (aS:List AV) (vals:List Value) (tmps:Array Value) (e e':Env),EnvR w G N tmps e→RepL w G vals aS→params N e ps aS=some e' →
 ps.length=vals.length∧EnvR w G N ((ps.zip vals).foldl (fun tmps (p:Tmp×Value)=>tmps.setIfInBounds p.1 p.2) tmps) e'
 | [],[],vals,tmps,e,e',he,hv,h=>by
  simp only [params,Option.some.injEq] at h
  subst h
  have:vals=[]:=List.eq_nil_of_length_eq_zero (by simpa using hv.1)
  subst this
  exact ⟨rfl,he⟩
 | [],_::_,vals,tmps,e,e',he,hv,h=>by simp [params] at h
 | _::_,[],vals,tmps,e,e',he,hv,h=>by simp [params] at h
 | p::ps,a::aS,[],tmps,e,e',he,hv,h=>by have:=hv.1; simp at this
 | p::ps,a::aS,v::vals,tmps,e,e',he,hv,h=>by
  simp only [params] at h
  obtain ⟨hp,h⟩:=zb h
  simp only [nblt] at hp
  obtain ⟨h1,h2⟩:=hv.tail
  obtain ⟨h3,h4⟩:=zeu ps aS vals _ _ e' (he.put hp h1) h2 h
  exact ⟨by simp [h3],by simpa using h4⟩
theorem zjy {B0:Nat} {w0:Wd} (hx:CxOK P (Below B0 w0.w) cx) (hO:OpenOK P B0 w0 cx (inl cx d)) {j:Nat} {hd:HD} {args:List AV} {Y:Ys} {h:H} {k:AV→H→Option X} {r:X} (hk:roundA cx (inl cx d) d j hd args Y h k=some r) {G:GS} {w:World} {vals:Array Value} {p:LpG} {rec:Loop}
 (st:St B0 w0 G h w) (hY:YOK cx Y G w) (ha:RepL w G vals.toList args) (hp:G.lp[j]? = some p) (hok:HdOK cx G w p hd) (hrec:w.heap[p.l]? = some (.loop rec)) (hsame:sameLoop rec p.st) :
 vals.size=rec.params.size∧∀ fn,RoundIn Fence.wide 0 P p.l fn ((rec.params.zip vals).foldl (fun tmps (t,a)=>tmps.setIfInBounds t a) rec.tmps) rec.assign rec.body w (EndsC B0 w0 G w k r):=by
 obtain ⟨N,lv,ps,aS,b,hrf,p1,p2,p3,henv⟩:=hok
 obtain ⟨_,s2,s3,s4,s5,_⟩:=hsame
 unfold roundA at hk
 rw [hrf] at hk
 simp only at hk
 split at hk
 · rename_i e1 he1
   obtain ⟨q1,q2⟩:=zeu ps args vals.toList _ _ _ henv ha he1
   have hsz:vals.size=rec.params.size:=by
    rw [s3]
    have:p.st.params.toList.length=vals.toList.length:=by rw [p1]; exact q1
    simpa using this.symm
   refine ⟨hsz,fun fn => ?_⟩
   have htm:(rec.params.zip vals).foldl (fun tmps (t,a)=>tmps.setIfInBounds t a) rec.tmps=(ps.zip vals.toList).foldl (fun tmps (p:Tmp×Value)=>tmps.setIfInBounds p.1 p.2) p.st.tmps:=by
    rw [s2,s3,← p1,← Array.foldl_toList,Array.toList_zip]
   rw [htm,s4,p2,s5,p3]
   rw [zet st] at hk
   obtain ⟨okas,okb⟩:=hx.rfs _ _ _ _ _ _ _ hrf
   have hρ:∀ l,some p.l=some l→∃ (j:Nat) (p:LpG),G.lp[j]? = some p∧p.l=l:=fun l hl=>⟨j,p,hp,Option.some.inj hl⟩
   refine roundIn_of_wpIn trivial ?_
   refine zb3 (ρ:=some p.l) (B0:=B0) (w0:=w0) (G0:=G) (wb:=w) (N:=N) hx hO hρ hY aS okas _ _ ?_ _ _ _ _ G (zes st q2 (some p.l)) hk
   refine ⟨fun a1 w1 e2 h2 G1 s hk => ?_,fun i a w' e h' G' _ s hk=>(by simp at hk),fun a w' e h' G' s hk=>(by simp at hk),fun T q b a w' e h' G' _ s _ hk=>(by simp at hk)⟩
   simp only [Exit.then]
   simp only at hk
   have hpG:G1.lp[j]? = some p:=(s.ext.lp j (List.getElem?_eq_some_iff.1 hp).1).trans hp
   split at hk
   · rename_i hlp
     rw [zl] at hlp
     obtain ⟨hB,rec1,hrec1,hsame1,hls⟩:=s.st.loop j p _ hpG hlp
     obtain ⟨st2,hk2⟩:=s.st.setLoop (rec':={ rec1 with state:=.busy }) (st:=.busy) hpG hrec1 hB hsame1 trivial
     refine ⟨_,run_beginRound hrec1 hls.1,?_⟩
     have s2':Rel B0 w0 N G w (some p.l) a1 (w1.putObj p.l (.loop { rec1 with state:=.busy })) e2 (setLp h2 j .busy) G1:=s.step (Ext.refl (Base.le_refl _)) hk2 st2
     refine zb3 (ρ:=some p.l) (B0:=B0) (w0:=w0) (G0:=G) (wb:=w) (N:=N) hx hO hρ hY b okb _ _ ?_ _ _ _ _ G1 s2' hk
     have fin:∀ (a:Act) (w':World) (e:Env) (h':H) (G':GS) (jump:Option Code) (ls:LS),Rel B0 w0 N G w (some p.l) a w' e h' G'→(∀ rec':Loop,LsOK { rec' with state:=if jump.isNone then .ready else .done,pending:=jump } ls)→k (.bool jump.isNone) (setLp h' j ls)=some r →
      ∃ v w'',(Instr.endRound p.l jump).run P w' = .ok v w''∧Ends B0 w0 G w k r v w'':=by
      intro a w' e h' G' jump ls s hls hk
      have hpG:G'.lp[j]? = some p:=(s.ext.lp j (List.getElem?_eq_some_iff.1 hp).1).trans hp
      have hjl:j<h'.lp.length:=by rw [s.st.lpl]; exact (List.getElem?_eq_some_iff.1 hpG).1
      obtain ⟨hB,rec1,hrec1,hsame1,_⟩:=s.st.loop j p _ hpG (List.getElem?_eq_getElem hjl)
      obtain ⟨st2,hk2⟩:=s.st.setLoop (rec':={ rec1 with state:=if jump.isNone then .ready else .done,pending:=jump }) (st:=ls) hpG hrec1 hB hsame1 (hls rec1)
      refine ⟨_,_,run_endRound jump hrec1,.bool jump.isNone,G',_,⟨s.ext.D,s.ext.bx,s.ext.tk,s.ext.lp,?_⟩,s.keep.trans s.ext.D hk2,st2,.bool _,hk⟩
      obtain ⟨ds,d1,d2,d3⟩:=s.dfs
      rw [d3 (by simp)] at d2
      exact d2
     refine ⟨fun a w' e h' G' s hk => ?_,fun i a w' e h' G' hiP s hk => ?_,fun a w' e h' G' s hk => ?_,fun T q b a w' e h' G' _ s _ hk => ?_⟩
     · exact fin a w' e h' G' none .ready s (fun _=>⟨rfl,rfl⟩) hk
     · exact fin a w' e h' G' (some (.exit i)) (.done (.ex i)) s (fun _=>⟨rfl,rfl⟩) (zb hk).2
     · exact fin a w' e h' G' (some .ret) (.done .ret) s (fun _=>⟨rfl,rfl⟩) hk
     · have:=nblt.1 (zb hk).1
       unfold PAN at this
       omega
   · cases hk
 · cases hk
theorem openOK {B0:Nat} {w0:Wd} (hx:CxOK P (Below B0 w0.w) cx):∀ d,OpenOK P B0 w0 cx (inl cx d)
 | 0=>⟨fun g args Y h k r hk=>by simp [inl] at hk,fun j hd args Y h k r hk=>by simp [inl] at hk,fun T q g args Y h k r hk=>by simp [inl] at hk⟩
 | d + 1=>⟨fun g args Y h k r hk G w vals st hY ha=>zgw hx (openOK hx d) (by simpa [inl] using hk) st hY ha,
     fun j hd args Y h k r hk G w vals p rec st hY ha hp hok hrec hsame=>zjy hx (openOK hx d) (by simpa [inl] using hk) st hY ha hp hok hrec hsame,
     fun T q g args Y h k r hk G w vals st hY ha=>znb hx (openOK hx d) (by simpa [inl] using hk) st hY ha⟩
end
end Go.AM
set_option linter.unusedVariables false
set_option linter.unusedSimpArgs false
namespace Go.AM
open Go.RowKit
section
variable {w:World} {G:GS} {B0:Nat}
theorem zi2 {a b:AV} (h:a.beq b=true) (nw:List (Option Nat)):mat nw a=(a,nw):=by
 cases a<;>simp_all [AV.beq,mat]
theorem znc {τ:Ty} {c:Cap} {T N:List (Option Tk)} {tk nw:List (Option Nat)} (hi:NI B0 G w 0 T N tk nw) {v:Value} {a:AV} (hv:RepV w { G with tk:=T } v a) {l:List τ.den} {tk':List (Option Nat)} (h:resC τ c tk a=some (l,tk')) :
 NStep B0 G w 0 T N (tk',(mat nw (.sl τ l c)).2) fun F=>RepV w (G.cut 0 0 F) v (mat nw (.sl τ l c)).1:=by
 unfold resC at h
 split at h
 · rename_i τ' l' c'
   obtain ⟨hc,h⟩:=zb h
   split at h
   · rename_i l0 hl0
     simp only [Option.some.injEq,Prod.mk.injEq] at h
     obtain ⟨rfl,rfl⟩:=h
     have e:=zh6 hl0
     unfold castSl at hl0
     split at hl0
     · rename_i hb
       have hττ:=Ty.beq_eq _ _ hb
       subst hττ
       simp only [Option.some.injEq] at hl0
       have hl0:l'=l0:=hl0
       subst hl0
       have hsl:RepC w G.D (.sl τ') l' [v]:=by cases hv with | sl _ _ _ _ h _=>exact h
       cases c with
       | unk =>
        have ht:(match Cap.unk,c' with | .fresh,.own t=>upd tk t none | _,_=>tk)=tk:=by cases c'<;>rfl
        simp only [mat]
        exact ⟨T,N,hi,Less.refl _,⟨[],by simp⟩,fun F _ => .sl _ _ _ _ hsl trivial⟩
       | full=>cases c'<;>simp [okCap] at hc
       | own t=>cases c'<;>simp [okCap] at hc
       | fresh =>
        cases c' with
        | full =>
         have:=zci (ks:=[]) (m:=0) (lm:=0) hi hv rfl
         simp only [rn1,Nat.zero_add] at this
         simp only [mat]
         exact this
        | unk=>simp [okCap] at hc
        | fresh=>simp [okCap] at hc
        | own t =>
         simp only [okCap] at hc
         split at hc
         · rename_i q hq
           simp only [nbeq] at hc
           subst hc
           have:=zci (ks:=[]) (m:=0) (lm:=0) hi hv rfl
           have e0:Nat.blt t 0=false:=rfl
           simp only [rn1,e0,Bool.false_and,cond_false,hq,Option.getD_some,Nat.zero_add] at this
           simp only [mat]
           exact this
         · simp at hc
     · cases hl0
   · cases h
 · split at h
   · simp only [Option.some.injEq,Prod.mk.injEq] at h
     obtain ⟨rfl,rfl⟩:=h
     refine ⟨T,N,hi,Less.refl _,⟨[],by simp⟩,fun F _ => .sl _ _ _ _ ?_ trivial⟩
     cases hv
     simp only [RepC]
     exact ⟨by simp,none,0,[],rfl,by simp,rfl,fun h=>by simp at h⟩
   · cases h
 · cases h
mutual
theorem zgx:∀ (s:SV) (T N:List (Option Tk)) (tk nw:List (Option Nat)) (v:Value) (a:AV) (x:s.den) (tk':List (Option Nat)),NI B0 G w 0 T N tk nw→RepV w { G with tk:=T } v a→resD s tk a=some (x,tk') →
 NStep B0 G w 0 T N (tk',(mat nw (s.enc x)).2) fun F=>RepV w (G.cut 0 0 F) v (mat nw (s.enc x)).1
 | .int k,T,N,tk,nw,v,a,x,tk',hi,hv,h=>by
  simp only [resD] at h
  split at h
  · split at h
    · rename_i e
      subst e
      simp only [Option.some.injEq,Prod.mk.injEq] at h
      obtain ⟨rfl,rfl⟩:=h
      refine ⟨T,N,hi,Less.refl _,⟨[],by simp⟩,fun F _ => ?_⟩
      obtain ⟨rfl,h2⟩:=zj hv
      exact .int _ _ h2
    · cases h
  · cases h
 | .bool,T,N,tk,nw,v,a,x,tk',hi,hv,h=>by
  simp only [resD] at h
  split at h
  · simp only [Option.some.injEq,Prod.mk.injEq] at h
    obtain ⟨rfl,rfl⟩:=h
    refine ⟨T,N,hi,Less.refl _,⟨[],by simp⟩,fun F _ => ?_⟩
    rw [zah hv]
    exact .bool _
  · cases h
 | .str,T,N,tk,nw,v,a,x,tk',hi,hv,h=>by
  simp only [resD] at h
  split at h
  · simp only [Option.some.injEq,Prod.mk.injEq] at h
    obtain ⟨rfl,rfl⟩:=h
    refine ⟨T,N,hi,Less.refl _,⟨[],by simp⟩,fun F _ => ?_⟩
    obtain ⟨s,rfl,h1,h2⟩:=zo hv
    exact .str s _ h1 h2
  · cases h
 | .err,T,N,tk,nw,v,a,x,tk',hi,hv,h=>by
  simp only [resD] at h
  split at h
  · simp only [Option.some.injEq,Prod.mk.injEq] at h
    obtain ⟨rfl,rfl⟩:=h
    refine ⟨T,N,hi,Less.refl _,⟨[],by simp⟩,fun F _ => ?_⟩
    cases hv with
    | err0=>exact .err0
    | err1 t x=>exact .err1 t x
  · cases h
 | .sl τ c,T,N,tk,nw,v,a,x,tk',hi,hv,h=>by
  simp only [resD] at h
  exact znc hi hv h
 | .const c,T,N,tk,nw,v,a,x,tk',hi,hv,h=>by
  simp only [resD] at h
  obtain ⟨hc,h⟩:=zb h
  simp only [Bool.and_eq_true] at hc
  simp only [Option.some.injEq,Prod.mk.injEq] at h
  obtain ⟨_,rfl⟩:=h
  have hm:mat nw ((SV.const c).enc x)=(c,nw):=zi2 hc.1 nw
  rw [hm]
  have e:=AV.beq_eq _ _ hc.1
  refine ⟨T,N,hi,Less.refl _,⟨[],by simp⟩,fun F _ => ?_⟩
  rw [← e] at hv
  exact zl3 (G:={ G with tk:=T }) (F:=F) (tm:=0) (fun i hi=>absurd hi (by omega)) hv hc.2
 | .agg vs,T,N,tk,nw,v,a,x,tk',hi,hv,h=>by
  simp only [resD] at h
  split at h
  · rename_i cs
    generalize hG:({ G with tk:=T }:GS)=G1 at hv
    cases hv with
    | agg us _ hl hr =>
     subst hG
     have:=zdk vs T N tk nw us.toList cs x tk' hi ⟨by simpa using hl,fun i v c hv hc=>hr i v c (by simpa using hv) hc⟩ h
     simp only [SV.enc,mat]
     exact this.imp fun F hF => .agg _ _ (by simpa using hF.1) fun i v c hv hc=>hF.2 i v c (by simpa using hv) hc
  · cases h
 | .fn _ _ _,T,N,tk,nw,v,a,x,tk',hi,hv,h=>by simp [resD] at h
theorem zdk : ∀ (ss:List SV) (T N:List (Option Tk)) (tk nw:List (Option Nat)) (vs:List Value) (aS:List AV) (x:sdenL ss) (tk':List (Option Nat)),NI B0 G w 0 T N tk nw→RepL w { G with tk:=T } vs aS→resL ss tk aS=some (x,tk') →
 NStep B0 G w 0 T N (tk',(matL nw (sencL ss x)).2) fun F=>RepL w (G.cut 0 0 F) vs (matL nw (sencL ss x)).1
 | [],T,N,tk,nw,vs,aS,x,tk',hi,hv,h=>by
  simp only [resL] at h
  split at h
  · simp only [Option.some.injEq,Prod.mk.injEq] at h
    obtain ⟨_,rfl⟩:=h
    have:vs=[]:=List.eq_nil_of_length_eq_zero (by simpa using hv.1)
    subst this
    exact ⟨T,N,hi,Less.refl _,⟨[],by simp⟩,fun F _ => .nil⟩
  · cases h
 | s :: ss,T,N,tk,nw,vs,aS,x,tk',hi,hv,h=>by
  simp only [resL] at h
  split at h
  · rename_i c cs
    split at h
    · rename_i y hy
      split at h
      · rename_i z hz
        simp only [Option.some.injEq,Prod.mk.injEq] at h
        obtain ⟨rfl,rfl⟩:=h
        match vs,hv with
        | [],hv=>have:=hv.1; simp at this
        | v::vs,hv =>
         obtain ⟨h1,h2⟩:=hv.tail
         have r1:=zgx s T N tk nw v c y.1 y.2 hi h1 hy
         simp only [sencL,matL]
         exact r1.bind (fun T' N' hi' hl'=>zdk ss T' N' y.2 _ vs cs z.1 z.2 hi' ⟨h2.1,fun i v c a b=>zdd hl' (h2.2 i v c a b)⟩ hz) (fun F a b => .cons a b)
      · cases h
    · cases h
  · cases h
end
end
theorem zq6 {w:World} {G:GS} {D:Nat→Nat→Prop} {w':World} (rv:RV) {h:H} (st:St w.heap.size ⟨w,D⟩ G h w') (hD:∀ b o,D b o→G.D b o) {v:Value} {a:AV} (hv:RepV w' G v a) {x:rv.den} (hx:rv.dec h.tk a=some x):OrcPost D w (rv.enc x) v w':=by
 have hi:NI w.heap.size G w' 0 G.tk [] h.tk []:=⟨st.tkl,rfl,Less.refl _,⟨fun t g hg=>st.tok t g (by simpa using hg),fun t t' g g' h1 h2=>st.tki t t' g g' (by simpa using h1) (by simpa using h2)⟩⟩
 have fin:∀ (e:AV) (tk':List (Option Nat)),(NStep w.heap.size G w' 0 G.tk [] (tk',(mat [] e).2) fun F=>RepV w' (G.cut 0 0 F) v (mat [] e).1)→OrcPost D w e v w':=by
  intro e tk' hs
  obtain ⟨T,N,hni,_,_,hF⟩:=hs
  refine ⟨{ D:=G.D,bx:=[],tk:=N,lp:=[],df:=[],bv:=G.bv },rfl,hD,?_,?_⟩
  · have tok:=hni.tok
    exact
    { below:=st.below
      b0:=st.b0
      bxl:=rfl
      box:=fun r b cs h1 h2=>by simp at h1
      virt:=fun r cs h1 h2=>by simp at h1
      inj:=fun r r' b h1 h2=>by simp at h1
      dat:=fun b o hb=>⟨(st.dat b o hb).1,by simp⟩
      dat0:=st.dat0
      tkl:=hni.hN
      tok:=fun t g ht=>by
       obtain ⟨h1,h2⟩:=tok.tok (T.length+t) g (by rw [List.getElem?_append_right (by omega),show T.length+t - T.length=t from by omega]; exact ht)
       refine ⟨h1,fun hl => ?_⟩
       obtain ⟨b,hA,hB,hn,rest⟩:=h2 hl
       exact ⟨b,hA,hB,by simp,rest⟩
      tki:=fun t t' g g' h1 h2 hne=>tok.tki (T.length+t) (T.length+t') g g' (by rw [List.getElem?_append_right (by omega),show T.length+t - T.length=t from by omega]; exact h1)
       (by rw [List.getElem?_append_right (by omega),show T.length+t' - T.length=t' from by omega]; exact h2) (by omega)
      lpl:=rfl
      loop:=fun j p s h1 h2=>by simp at h1
      lpi:=fun j j' p p' h1 h2=>by simp at h1
      dfr:=fun d hd=>by simp at hd
      dfn:=by simp }
  · have:=hF N ⟨fun i hi=>absurd hi (by omega),fun p _ => .inl (by rw [Nat.zero_add])⟩
    exact zdh (G:=G.cut 0 0 N) (G1:={ D:=G.D,bx:=[],tk:=N,lp:=[],df:=[],bv:=G.bv }) rfl (by simp [GS.cut]) rfl (by simp [GS.cut]) rfl this
 cases rv with
 | one s =>
  simp only [RV.dec] at hx
  split at hx
  · rename_i y hy
    simp only [Option.some.injEq] at hx
    subst hx
    exact fin _ _ (zgx s G.tk [] h.tk [] v a y.1 y.2 hi hv hy)
  · cases hx
 | many ss =>
  simp only [RV.dec] at hx
  split at hx
  · rename_i cs
    split at hx
    · rename_i y hy
      simp only [Option.some.injEq] at hx
      subst hx
      cases hv with
      | tup us _ hl hr =>
       have:=zdk ss G.tk [] h.tk [] us.toList cs y.1 y.2 hi ⟨by simpa using hl,fun i v c hv hc=>hr i v c (by simpa using hv) hc⟩ hy
       refine fin _ y.2 ?_
       simp only [RV.enc,mat]
       exact this.imp fun F hF => .tup _ _ (by simpa using hF.1) fun i v c hv hc=>hF.2 i v c (by simpa using hv) hc
    · cases hx
  · cases hx
theorem zjz {P:Program} {rv:RV} {cx:Cx rv.den} {W:World→Prop} (hst:∀ w w',W w→Below w.heap.size w w'→W w') (hx0:CxOK P W cx) {d:Nat} {g:Nat} {args:List AV} {x:rv.den} (hk:closed rv cx d g args=some x) {w:World} {D:Nat→Nat→Prop} {vals:Array Value} (hw:W w)
 (ha:RepL w ⟨D,[],[],[],[],bv0⟩ vals.toList args) (hc:∀ b o,D b o→∃ u,w.cell? ⟨b,o,none⟩=some u):Goes P g vals w (OrcPost D w (rv.enc x)):=by
 have st:St w.heap.size ⟨w,D⟩ ⟨D,[],[],[],[],bv0⟩ ⟨[],[],[]⟩ w:=
  { below:=Below.refl _ _
    b0:=Nat.le_refl _
    bxl:=rfl
    box:=fun r b cs h1 h2=>by simp at h1
    virt:=fun r cs h1 h2=>by simp at h1
    inj:=fun r r' b h1 h2=>by simp at h1
    dat:=fun b o hb=>⟨hc b o hb,by simp⟩
    dat0:=fun b o hb => .inl hb
    tkl:=rfl
    tok:=fun t g ht=>by simp at ht
    tki:=fun t t' g g' h1 h2=>by simp at h1
    lpl:=rfl
    loop:=fun j p s h1 h2=>by simp at h1
    lpi:=fun j j' p p' h1 h2=>by simp at h1
    dfr:=fun d hd=>by simp at hd
    dfn:=by simp }
 have hx:CxOK P (Below w.heap.size (⟨w,D⟩:Wd).w) cx:={ hx0 with C:=⟨fun g orc h args en y h1 h2 w' D' vals hb=>hx0.C.1 g orc h args en y h1 h2 w' D' vals (hst w w' hw hb),fun g p h=>(hx0.C.2 g p h).mono fun w' hb=>hst w w' hw hb⟩ }
 unfold closed at hk
 obtain ⟨h1,h2⟩:=zgw hx (openOK hx d) hk st (fun j hd hl=>by simp [lookY] at hl) ha
 refine .inl ⟨h1,CallsIn.mono h2 fun e w' hR => ?_⟩
 cases e with
 | panicked ch=>exact hR.elim
 | outgrown=>exact hR.elim
 | returned v =>
  obtain ⟨av,G',h',hxE,hkE,stE,hvE,hkk⟩:=hR
  exact zq6 rv stE hxE.D hvE hkk
end Go.AM
set_option linter.unusedVariables false
set_option linter.unusedSimpArgs false
namespace Go.AM
def zeroOK:Value→AV→Bool
 | _,.any=>true
 | .int k n,.int k' m=>decide (k=k')&&decide (n=m)&&(decide (k ≠ .u8)||(decide (0≤n)&&decide (n<256)))
 | .bool b,.bool c=>b==c
 | .string s,.str []=>s.data.toList.isEmpty
 | .slice none 0 0,.nils=>true
 | .slice none 0 0,.sl _ [] .full=>true
 | .pointer none,.nilp=>true
 | .nilFunc,.nilfn=>true
 | .nilIface,.err false=>true
 | _,_=>false
def zerosOK:List Value→List AV→Bool
 | [],[]=>true
 | v::vs,a::aS=>zeroOK v a&&zerosOK vs aS
 | _,_=>false
theorem znd {w:World} {G:GS} {v:Value} {a:AV} (h:zeroOK v a=true):RepV w G v a:=by
 unfold zeroOK at h
 split at h
 · exact .any _
 · simp only [Bool.and_eq_true,Bool.or_eq_true,decide_eq_true_eq] at h
   obtain ⟨⟨rfl,rfl⟩,h⟩:=h
   exact .int _ _ fun e=>by
    rcases h with h | h
    · exact absurd e h
    · exact h
 · simp only [beq_iff_eq] at h
   subst h
   exact .bool _
 · rename_i s
   exact .str s [] (by simpa using h) (by simp)
 · exact .nils
 · rename_i τ
   have h2:RepV w G (.slice none 0 0) (typ (some (.sl τ)) .nils):=zac .nils _
   exact h2
 · exact .nilp
 · exact .nilfn
 · exact .err0
 · cases h
theorem zfl {w:World} {G:GS}:∀ {vs:List Value} {aS:List AV},zerosOK vs aS=true→RepL w G vs aS
 | [],[],_ => .nil
 | v::vs,a::aS,h=>by
  simp only [zerosOK,Bool.and_eq_true] at h
  exact .cons (znd h.1) (zfl h.2)
 | [],_::_,h=>by simp [zerosOK] at h
 | _::_,[],h=>by simp [zerosOK] at h
def fieldsOK (P:Program):List Field→List (Nat×Nat)→Bool
 | [],[]=>true
 | f::fs,(o,t)::r=>Nat.beq f.offset o&&Nat.beq f.type t&&(P.info? f.type).isSome&&fieldsOK P fs r
 | _,_=>false
theorem zd4 {P:Program}:∀ {fs:List Field} {r:List (Nat×Nat)},fieldsOK P fs r=true→fs.map (fun f=>(f.offset,f.type))=r∧∀ f∈fs,∃ i,P.info? f.type=some i
 | [],[],_=>⟨rfl,fun f h=>by simp at h⟩
 | f::fs,(o,t)::r,h=>by
  simp only [fieldsOK,Bool.and_eq_true,nbeq] at h
  obtain ⟨⟨⟨h1,h2⟩,h3⟩,h4⟩:=h
  obtain ⟨h5,h6⟩:=zd4 h4
  refine ⟨by simp [h1,h2,h5],fun g hg => ?_⟩
  rcases List.mem_cons.1 hg with rfl | hg
  · exact Option.isSome_iff_exists.1 h3
  · exact h6 g hg
 | [],_::_,h=>by simp [fieldsOK] at h
 | _::_,[],h=>by simp [fieldsOK] at h
def tdOK (P:Program) (d:TypeDesc):TD→Bool
 | .int k=>match d with | .int k'=>decide (k'=k) | _=>false
 | .bool=>match d with | .bool=>true | _=>false
 | .str=>match d with | .string=>true | _=>false
 | .slice e=>match d with | .slice e'=>Nat.beq e' e | _=>false
 | .arr n e=>match d with | .array n' e'=>Nat.beq n' n&&Nat.beq e' e | _=>false
 | .struct fs=>match d with | .struct fields=>fieldsOK P fields.toList fs | _=>false
 | .ptr=>match d with | .pointer _=>true | _=>false
 | .func=>match d with | .func _ _ _=>true | _=>false
 | .iface=>match d with | .interface _=>true | _=>false
 | .other=>true
 | .map k e=>match d with | .map k' e'=>Nat.beq k' k&&Nat.beq e' e | _=>false
def scalarK:Option TypeDesc→Nat
 | some (.int _)=>1
 | some .bool=>2
 | some .string=>3
 | _=>0
def fieldsCmp (P:Program):List Field→List AV→Nat→Bool
 | [],[],_=>true
 | f :: fs, z :: zs, off => Nat.beq f.offset off && f.name != "_" && Nat.beq (scalarK (P.underlying f.type)) (kind1 z) && !Nat.beq (kind1 z) 0 && fieldsCmp P fs zs (off + 1)
 | _,_,_=>false
def cmpB (P:Program) (t:Nat) (d:TypeDesc) (zs:List AV):Bool:=match d with
 | .struct fs => !P.eqGuardType P.depth t && !P.stoodInHeld t&&fieldsCmp P fs.toList zs 0
 | _=>false
theorem zj0 {P:Program} {t:TypeId} (ht:scalarK (P.underlying t)≠0) {cs:Array Value} {off:Nat} {v:Value} (h:cs[off]? = some v) (w:World):(part t cs off).run P w = .ok v w:=by
 cases hd:P.underlying t with
 | none=>rw [hd] at ht; exact absurd rfl ht
 | some d =>
  have ha:(isAgg t).run P w = .ok false w:=by
   unfold isAgg
   simp only [Sem.run_bind,run_underlying hd,Result.andThen_ok]
   rw [hd] at ht
   cases d<;>simp [scalarK] at ht<;>rfl
  unfold part
  simp only [Sem.run_bind,ha,Result.andThen_ok,Bool.false_eq_true,if_false,h,Sem.run_pure]
theorem zoy {P:Program} {t:TypeId} {w:World} {G:GS} {x y:Value} {a b:AV} {c:Bool} (ht:scalarK (P.underlying t)=kind1 a) (hx:RepV w G x a) (hy:RepV w G y b) (h:eqS a b=some c) (d:Nat) :
 (Op.equalIn (d+1) t x y).run P w = .ok c w:=by
 unfold eqS at h
 split at h
 · split at h
   · rename_i e
     subst e
     simp only [Option.some.injEq] at h
     subst h
     obtain ⟨rfl,_⟩:=zj hx
     obtain ⟨rfl,_⟩:=zj hy
     cases hd:P.underlying t with
     | none=>rw [hd] at ht; cases ht
     | some dd =>
      rw [hd] at ht
      cases dd<;>simp [scalarK,kind1] at ht
      exact run_equalIn_int _ _ _ _ _ _ _ hd
   · cases h
 · simp only [Option.some.injEq] at h
   subst h
   obtain ⟨s,rfl,h1,_⟩:=zo hx
   obtain ⟨s',rfl,h1',_⟩:=zo hy
   cases hd:P.underlying t with
   | none=>rw [hd] at ht; cases ht
   | some dd =>
    rw [hd] at ht
    cases dd<;>simp [scalarK,kind1] at ht
    rw [run_equalIn_string _ _ _ _ _ hd,ByteArray.toList_eq,ByteArray.toList_eq,h1,h1']
 · simp only [Option.some.injEq] at h
   subst h
   rw [zah hx,zah hy]
   cases hd:P.underlying t with
   | none=>rw [hd] at ht; cases ht
   | some dd =>
    rw [hd] at ht
    cases dd<;>simp [scalarK,kind1] at ht
    exact run_equalIn_bool _ _ _ _ _ hd
 · cases h
theorem zlk {P:Program} {w:World} {G:GS} {xs ys:Array Value} (d:Nat):∀ (fs:List Field) (zs:List AV) (off:Nat) (aS bs:List AV) (c:Bool),fieldsCmp P fs zs off=true→kindsB aS zs=true→RepL w G (xs.toList.drop off) aS→RepL w G (ys.toList.drop off) bs→eqL aS bs=some c →
 (Op.eqFields (d+1) xs ys fs).run P w = .ok c w:=by
 intro fs
 induction fs with
 | nil =>
  intro zs off aS bs c hf hl hx hy h
  cases zs with
  | cons _ _=>simp [fieldsCmp] at hf
  | nil =>
  cases aS with
  | cons _ _=>simp [kindsB] at hl
  | nil =>
  cases bs with
  | nil=>simp [eqL] at h; subst h; simp [Op.eqFields]
  | cons _ _=>simp [eqL] at h
 | cons f fs ih =>
  intro zs off aS bs c hf hl hx hy h
  cases zs with
  | nil=>simp [fieldsCmp] at hf
  | cons z zs =>
  cases aS with
  | nil=>simp [kindsB] at hl
  | cons a aS =>
   simp only [fieldsCmp,Bool.and_eq_true,nbeq,bne_iff_ne,ne_eq,Bool.not_eq_true'] at hf
   obtain ⟨⟨⟨⟨h1,h2⟩,h3a⟩,h3b⟩,h4⟩:=hf
   simp only [kindsB,Bool.and_eq_true,nbeq] at hl
   have h3:scalarK (P.underlying f.type)≠0:=by
    intro e
    rw [← h3a,e] at h3b
    cases h3b
   cases bs with
   | nil=>simp [eqL] at h
   | cons b bs =>
    obtain ⟨xv,hxv⟩:∃ xv,xs[off]? = some xv:=by
     have:=hx.1
     simp only [List.length_drop,List.length_cons,Array.length_toList] at this
     exact ⟨xs[off]'(by omega),by simp⟩
    obtain ⟨yv,hyv⟩:∃ yv,ys[off]? = some yv:=by
     have:=hy.1
     simp only [List.length_drop,List.length_cons,Array.length_toList] at this
     exact ⟨ys[off]'(by omega),by simp⟩
    have e1:xs.toList.drop off=xv::xs.toList.drop (off+1):=by
     have hlt:off<xs.toList.length:=by simpa using (Array.getElem?_eq_some_iff.1 hxv).1
     rw [List.drop_eq_getElem_cons hlt]
     congr 1
     have:=(Array.getElem?_eq_some_iff.1 hxv).2
     simpa using this
    have e2:ys.toList.drop off=yv::ys.toList.drop (off+1):=by
     have hlt:off<ys.toList.length:=by simpa using (Array.getElem?_eq_some_iff.1 hyv).1
     rw [List.drop_eq_getElem_cons hlt]
     congr 1
     have:=(Array.getElem?_eq_some_iff.1 hyv).2
     simpa using this
    rw [e1] at hx
    rw [e2] at hy
    obtain ⟨hx1,hx2⟩:=hx.tail
    obtain ⟨hy1,hy2⟩:=hy.tail
    simp only [eqL] at h
    have step:∀ x,eqS a b=some x→(Op.eqFields (d+1) xs ys (f::fs)).run P w=(if (!x)=true then (pure false:Sem Bool) else Op.eqFields (d+1) xs ys fs).run P w:=by
     intro x hxx
     simp only [Op.eqFields,ne_eq,h2,not_false_eq_true,if_true,Sem.run_bind,h1,zj0 h3 hxv,zj0 h3 hyv,Result.andThen_ok,zoy (h3a.trans hl.1.symm) hx1 hy1 hxx]
    split at h
    · rename_i x heq
      split at h
      · have hz:zs=[]:=by cases zs with | nil=>rfl | cons _ _=>simp [kindsB] at hl
        subst hz
        have hnil:fs=[]:=by cases fs with | nil=>rfl | cons _ _=>simp [fieldsCmp] at h4
        subst hnil
        rw [step x heq]
        simp only [Option.some.injEq] at h
        subst h
        cases x<;>simp [Op.eqFields]
      · cases h
    · rename_i x heq _
      split at h
      · rename_i y hy'
        simp only [Option.some.injEq] at h
        subst h
        rw [step x heq]
        cases x
        · simp
        · simp only [Bool.not_true,Bool.false_eq_true,if_false,Bool.true_and]
          exact ih zs (off+1) _ _ y h4 hl.2 hx2 hy2 hy'
      · cases h
    · cases h
theorem zvd {P:Program} {t:TypeId} {d:TypeDesc} (hd:P.underlying t=some d) {zs:List AV} (h:cmpB P t d zs=true):P.eqGuardType P.depth t=false∧∀ (w:World) (G:GS) (xs ys:Array Value) (aS bs:List AV) (c:Bool),kindsB aS zs=true→RepL w G xs.toList aS→RepL w G ys.toList bs→eqL aS bs=some c →
 (Op.equal t (.agg xs) (.agg ys)).run P w = .ok c w:=by
 unfold cmpB at h
 split at h
 · rename_i fs
   simp only [Bool.and_eq_true,Bool.not_eq_true'] at h
   obtain ⟨⟨h1,h2⟩,h3⟩:=h
   refine ⟨h1,fun w G xs ys aS bs c hl hx hy he => ?_⟩
   have hf:P.fieldsOf t=fs:=by simp [Program.fieldsOf,hd]
   simp only [Op.equal,Op.maxDepth]
   rw [run_equalIn_struct w 9999 t xs ys (by rw [hf]; exact hd) h2,hf]
   exact zlk 9998 fs.toList zs 0 aS bs c h3 hl hx hy he
 · cases h
def tiOK (P:Program) (t:Nat) (ti:TI):Bool:=
 match P.info? t,P.underlying t with
 | some i,some d=>Nat.beq i.size ti.size&&Nat.beq i.bytes ti.bytes&&(match i.zero with
  | some z=>ti.zero.isEmpty||zerosOK z.cells.toList ti.zero
  | none=>ti.zero.isEmpty)&&(ti.agg==descAgg d)&&tdOK P d ti.d&&(!ti.cmp||cmpB P t d ti.zero)
 | _,_=>false
theorem zoz {P:Program} {t:Nat} {d:TypeDesc} (hu:P.underlying t=some d) {x:TD} (h:tdOK P d x=true):TdOK P t x:=by
 cases x with
 | struct fs =>
  simp only [tdOK] at h
  split at h
  · rename_i fields
    obtain ⟨h1,h2⟩:=zd4 h
    exact ⟨fields,hu,h1,h2⟩
  · cases h
 | int k =>
  simp only [tdOK] at h
  split at h
  · simp only [decide_eq_true_eq] at h; subst h; exact hu
  · cases h
 | bool =>
  simp only [tdOK] at h
  split at h
  · exact hu
  · cases h
 | str =>
  simp only [tdOK] at h
  split at h
  · exact hu
  · cases h
 | slice e =>
  simp only [tdOK] at h
  split at h
  · simp only [nbeq] at h; subst h; exact hu
  · cases h
 | arr n e =>
  simp only [tdOK] at h
  split at h
  · simp only [nbeq,Bool.and_eq_true] at h; obtain ⟨rfl,rfl⟩:=h; exact hu
  · cases h
 | map k e =>
  simp only [tdOK] at h
  split at h
  · simp only [nbeq,Bool.and_eq_true] at h; obtain ⟨rfl,rfl⟩:=h; exact hu
  · cases h
 | ptr =>
  simp only [tdOK] at h
  split at h
  · exact ⟨_,hu⟩
  · cases h
 | func =>
  simp only [tdOK] at h
  split at h
  · exact ⟨_,_,_,hu⟩
  · cases h
 | iface =>
  simp only [tdOK] at h
  split at h
  · exact ⟨_,hu⟩
  · cases h
 | other=>trivial
theorem zo0 {P:Program} {t:Nat} {ti:TI} (h:tiOK P t ti=true):TiOK P t ti:=by
 unfold tiOK at h
 split at h
 · rename_i i d hi hd
   simp only [Bool.and_eq_true,nbeq,Bool.not_eq_true'] at h
   obtain ⟨⟨⟨⟨⟨h1,h2⟩,h3⟩,h4⟩,h5⟩,h6⟩:=h
   refine ⟨⟨i,hi,h1,h2,fun hz => ?_⟩,⟨d,hd,by simpa using h4⟩,zoz hd h5,fun hc => ?_⟩
   rotate_left
   · rw [hc] at h6
     simp only [Bool.not_true,Bool.false_or] at h6
     exact zvd hd h6
   split at h3
   · rename_i z hz'
     simp only [Bool.or_eq_true,List.isEmpty_iff] at h3
     rcases h3 with h3 | h3
     · exact absurd h3 hz
     · exact ⟨z,hz',fun w G=>zfl h3⟩
   · rw [List.isEmpty_iff] at h3
     exact absurd h3 hz
 · cases h
inductive Tree (α:Type) where
 | nil | one (k:Nat) (a:α) | node (k:Nat) (l r:Tree α)
def Tree.get {α:Type}:Tree α→Nat→Option α
 | .nil,_=>none
 | .one k a,t=>bif Nat.beq k t then some a else none
 | .node k l r,t=>bif Nat.blt t k then l.get t else r.get t
def Tree.all {α:Type} (p:Nat→α→Bool):Tree α→Bool
 | .nil=>true
 | .one k a=>p k a
 | .node _ l r=>l.all p&&r.all p
theorem Tree.all_get {α:Type} {p:Nat→α→Bool}:∀ {T:Tree α} {t:Nat} {a:α},T.all p=true→T.get t=some a→p t a=true
 | .nil,t,a,_,h=>by simp [Tree.get] at h
 | .one k b,t,a,hp,h=>by
  simp only [Tree.get] at h
  obtain ⟨h1,h2⟩:=zb h
  obtain rfl:=nbeq.1 h1
  obtain rfl:=Option.some.inj h2
  exact hp
 | .node k l r,t,a,hp,h=>by
  simp only [Tree.all,Bool.and_eq_true] at hp
  simp only [Tree.get] at h
  cases hb:Nat.blt t k with
  | true=>rw [hb] at h; exact Tree.all_get hp.1 h
  | false=>rw [hb] at h; exact Tree.all_get hp.2 h
theorem tabOK {P:Program} {T:Tree TI} (h:T.all (tiOK P)=true):TabOK P T.get:=fun t ti ht=>zo0 (Tree.all_get h ht)
end Go.AM
set_option linter.unusedVariables false
set_option linter.unusedSimpArgs false
namespace Go.AM
open Go.RowKit
def loopsIn:Code→List Code
 | .seq a b=>loopsIn a++loopsIn b
 | .cond _ a b=>loopsIn a++loopsIn b
 | .block _ b=>loopsIn b
 | .scope b=>loopsIn b
 | .loop b=>b::loopsIn b
 | .rangeFunc _ _ a b=>loopsIn a++loopsIn b
 | _=>[]
def cutsIn:Code→List Code
 | .seq a b=>b::(cutsIn a++cutsIn b)
 | .cond _ a b=>cutsIn a++cutsIn b
 | .block _ b=>cutsIn b
 | .scope b=>cutsIn b
 | .loop b=>cutsIn b
 | .rangeFunc _ _ a b=>cutsIn a++cutsIn b
 | _=>[]
def rfsIn:Code→List (Option Nat×List Nat×Code×Code)
 | .seq a b=>rfsIn a++rfsIn b
 | .cond _ a b=>rfsIn a++rfsIn b
 | .block _ b=>rfsIn b
 | .scope b=>rfsIn b
 | .loop b=>rfsIn b
 | .rangeFunc _ ps a b=>((match rid a with | some i=>some i | none=>rid b),ps.toList,a,b)::(rfsIn a++rfsIn b)
 | _=>[]
def drawsIn:Code→List (Nat×Array Oper)
 | .seq a b=>drawsIn a++drawsIn b
 | .cond _ a b=>drawsIn a++drawsIn b
 | .block _ b=>drawsIn b
 | .scope b=>drawsIn b
 | .loop b=>drawsIn b
 | .rangeFunc _ _ a b=>drawsIn a++drawsIn b
 | .region i ops dr=>bif dr then [(i,ops)] else []
 | _=>[]
def AllL {α:Type} (p:α→Prop):List α→Prop
 | []=>True
 | a::l=>p a∧AllL p l
theorem allL {α:Type} {p:α→Prop}:∀ {l:List α},AllL p l→∀ x∈l,p x
 | [],_,x,h=>by simp at h
 | a::l,hp,x,h=>by
  rcases List.mem_cons.1 h with rfl | h
  · exact hp.1
  · exact allL hp.2 x h
theorem zo1 {X:Type} {cx:Cx X} {g N:Nat}:∀ (c:Code),(∀ q∈drawsIn c,drawOK cx.tab q.2 (cx.conf g q.1) (masks q.2.toList [])=true)→(∀ b∈loopsIn c,∀ li∈loopsAt cx g b,LoopOK cx g N b li) →
 (∀ b∈cutsIn c,∀ ci∈cutsAt cx g b,CutOK cx g N b ci)→(∀ q∈rfsIn c,∀ i,q.1=some i→∃ lv,cx.rfs g i=some (N,lv,q.2))→okC cx g N c:=by
 intro c
 induction c with
 | seq a b iha ihb =>
  intro hd hl hc hr
  simp only [drawsIn,loopsIn,cutsIn,rfsIn,List.mem_append,List.mem_cons] at hd hl hc hr
  exact ⟨iha (fun q h=>hd q (.inl h)) (fun q h=>hl q (.inl h)) (fun q h=>hc q (.inr (.inl h))) (fun q h=>hr q (.inl h)),ihb (fun q h=>hd q (.inr h)) (fun q h=>hl q (.inr h)) (fun q h=>hc q (.inr (.inr h))) (fun q h=>hr q (.inr h)),hc b (.inl rfl)⟩
 | cond x a b iha ihb =>
  intro hd hl hc hr
  simp only [drawsIn,loopsIn,cutsIn,rfsIn,List.mem_append] at hd hl hc hr
  exact ⟨iha (fun q h=>hd q (.inl h)) (fun q h=>hl q (.inl h)) (fun q h=>hc q (.inl h)) (fun q h=>hr q (.inl h)),ihb (fun q h=>hd q (.inr h)) (fun q h=>hl q (.inr h)) (fun q h=>hc q (.inr h)) (fun q h=>hr q (.inr h))⟩
 | block i b ih=>exact fun hd hl hc hr=>ih hd hl hc hr
 | scope b ih=>exact fun hd hl hc hr=>ih hd hl hc hr
 | loop b ih =>
  intro hd hl hc hr
  simp only [loopsIn,List.mem_cons] at hl
  exact ⟨ih hd (fun q h=>hl q (.inr h)) hc hr,hl b (.inl rfl)⟩
 | rangeFunc f ps a b iha ihb =>
  intro hd hl hc hr
  simp only [drawsIn,loopsIn,cutsIn,rfsIn,List.mem_append,List.mem_cons] at hd hl hc hr
  exact ⟨iha (fun q h=>hd q (.inl h)) (fun q h=>hl q (.inl h)) (fun q h=>hc q (.inl h)) (fun q h=>hr q (.inr (.inl h))),ihb (fun q h=>hd q (.inr h)) (fun q h=>hl q (.inr h)) (fun q h=>hc q (.inr h)) (fun q h=>hr q (.inr (.inr h))),fun i hi=>hr _ (.inl rfl) i hi⟩
 | region i ops dr =>
  intro hd hl hc hr
  intro e
  subst e
  exact hd (i,ops) (by simp [drawsIn])
 | _=>intros; trivial
theorem zq7 {X:Type} {cx:Cx X} {g N:Nat}:∀ (c:Code),okC cx g N c→∀ q∈rfsIn c,okC cx g N q.2.2.1∧okC cx g N q.2.2.2:=by
 intro c
 induction c with
 | seq a b iha ihb =>
  intro h q hq
  simp only [rfsIn,List.mem_append] at hq
  exact hq.elim (iha h.1 q) (ihb h.2.1 q)
 | cond x a b iha ihb =>
  intro h q hq
  simp only [rfsIn,List.mem_append] at hq
  exact hq.elim (iha h.1 q) (ihb h.2 q)
 | block i b ih=>exact fun h q hq=>ih h q hq
 | scope b ih=>exact fun h q hq=>ih h q hq
 | loop b ih=>exact fun h q hq=>ih h.1 q hq
 | rangeFunc f ps a b iha ihb =>
  intro h q hq
  simp only [rfsIn,List.mem_cons,List.mem_append] at hq
  rcases hq with rfl | hq | hq
  · exact ⟨h.1,h.2.1⟩
  · exact iha h.1 q hq
  · exact ihb h.2.1 q hq
 | _=>intro h q hq; simp [rfsIn] at hq
noncomputable def loopNo (f:Func) (k:Nat):Code:=(nth (loopsIn (f.body.getD .skip)) k).getD .skip
noncomputable def rfNo (f:Func) (k:Nat):List Nat×Code×Code:=((nth (rfsIn (f.body.getD .skip)) k).getD (none,[],.skip,.skip)).2
theorem A_rf {X:Type} {cx:Cx X} {g N:Nat} {f:Func} (h:okC cx g N (f.body.getD .skip)) (k:Nat):okC cx g N (rfNo f k).2.1∧okC cx g N (rfNo f k).2.2:=by
 unfold rfNo
 cases hq:nth (rfsIn (f.body.getD .skip)) k with
 | none=>exact ⟨trivial,trivial⟩
 | some q =>
  rw [zl] at hq
  exact zq7 _ h q (List.mem_of_getElem? hq)
noncomputable def orcOf (ps:List SV) (rv:RV) (F:sdenL ps→Option rv.den):List AV→Option Entry:=fun args=>match sdecL ps args with
 | some x=>some ⟨rv.den,F x,rv.enc⟩
 | none=>none
def FnOK (P:Program) (W:World→Prop) (g:Nat) (ps:List SV) (rv:RV) (F:sdenL ps→Option rv.den):Prop:=
 ∀ (x:sdenL ps) (y:rv.den),F x=some y→∀ (w:World) (D:Nat→Nat→Prop) (vals:Array Value),W w→RepL w ⟨D,[],[],[],[],bv0⟩ vals.toList (sencL ps x)→(∀ b o,D b o→∃ u,w.cell? ⟨b,o,none⟩=some u)→Goes P g vals w (OrcPost D w (rv.enc y))
theorem zd {P:Program} {W:World→Prop} {g:Nat} {ps:List SV} {rv:RV} {F:sdenL ps→Option rv.den} (h:FnOK P W g ps rv F):OrcOK P W g (orcOf ps rv F):=by
 intro args en y hen hy w D vals hw ha hc
 unfold orcOf at hen
 split at hen
 · rename_i x hx
   simp only [Option.some.injEq] at hen
   subst hen
   have:=zbj ps args x hx
   rw [← this] at ha
   exact h x y hy w D vals hw ha hc
 · cases hen
theorem zh {P:Program} {W:World→Prop} (hst:∀ w w',W w→Below w.heap.size w w'→W w') {g d:Nat} {ps:List SV} {rv:RV} {F:sdenL ps→Option rv.den} {cx:Cx rv.den} (hx:CxOK P W cx) (he:∀ x,closed rv cx d g (sencL ps x)=F x):FnOK P W g ps rv F:=
 fun x y hy w D vals hw ha hc=>zjz hst hx (d:=d) (by rw [he x]; exact hy) hw ha hc
def WOf (I:World→Prop) (w:World):Prop:=∃ w0,I w0∧w0.heap.size≤w.heap.size∧Below w0.heap.size w0 w
theorem WOf.st {I:World→Prop}:∀ w w',WOf I w→Below w.heap.size w w'→WOf I w':=
 fun w w' ⟨w0,h1,h2,h3⟩ hb=>⟨w0,h1,Nat.le_trans h2 hb.size,h3.trans (hb.mono h2)⟩
theorem WOf.of {I:World→Prop} {w:World} (h:I w):WOf I w:=⟨w,h,Nat.le_refl _,Below.refl _ _⟩
end Go.AM
set_option linter.unusedVariables false
set_option linter.unusedSimpArgs false
namespace Go.AM
open Go.RowKit Go.WideShapes Go.ChangeShapes
def reach:Nat:=140737488351232
mutual
def WfD:(τ:Ty)→τ.den→Prop
 | .u8,_=>True
 | .u8t _,_=>True
 | .int k,n=>k.min≤n∧n≤k.max
 | .bool,_=>True
 | .str,s=>s.length≤reach
 | .sl e,l=>l.length≤reach∧∀ x∈l,WfD e x
 | .agg ts,x=>WfL ts x
def WfL:(ts:List Ty)→denL ts→Prop
 | [],_=>True
 | [t],x=>WfD t x
 | t::u::us,(x,y)=>WfD t x∧WfL (u::us) y
end
def consD:(t:Ty)→(ts:List Ty)→t.den→denL ts→denL (t::ts)
 | _,[],x,_=>x
 | _,_::_,x,y=>(x,y)
theorem zig {w:World} {D:Nat→Nat→Prop} {t:Ty} {ts:List Ty} {x:t.den} {y:denL ts} {v1 v2:List Value} (h:RepC w D t x v1) (k:RepCL w D ts y v2):RepCL w D (t::ts) (consD t ts x y) (v1++v2):=by
 cases ts with
 | nil =>
  simp only [RepCL] at k
  subst k
  simpa [RepCL,consD] using h
 | cons u us=>exact ⟨v1,v2,rfl,h,k⟩
theorem zj1 {t:Ty} {ts:List Ty} {x:t.den} {y:denL ts} (h:WfD t x) (k:WfL ts y):WfL (t::ts) (consD t ts x y):=by
 cases ts with
 | nil=>simpa [WfL,consD] using h
 | cons u us=>exact ⟨h,k⟩
mutual
def tyIs (P:Program):Nat→TypeId→Ty→Bool
 | 0,_,_=>false
 | n+1,t,τ=>match τ,P.underlying t with
  | .u8,some (.int .u8)=>true
  | .int k,some (.int k')=>decide (k=k')&&decide (k ≠ .u8)
  | .bool,some .bool=>true
  | .str,some .string=>true
  | .sl e,some (.slice e')=>tyIs P n e' e&&Nat.beq (P.cellsOf e') e.size&&decide (0<P.bytesOf e')&&decide (0<e.size)
  | .agg ts,some (.struct fs)=>tysIs P n fs.toList ts 0&&Nat.beq (P.cellsOf t) (sizeL ts)
  | .agg ts,some (.array k e)=>Nat.beq (P.cellsOf t) (sizeL ts)&&Nat.beq ts.length k&&elsIs P n e ts
  | _,_=>false
def tysIs (P:Program):Nat→List Field→List Ty→Nat→Bool
 | _,[],[],_=>true
 | n,f::fs,t::ts,off=>tyIs P n f.type t&&Nat.beq f.offset off&&Nat.beq (P.cellsOf f.type) t.size&&tysIs P n fs ts (off+t.size)
 | _,_,_,_=>false
def elsIs (P:Program):Nat→TypeId→List Ty→Bool
 | _,_,[]=>true
 | n,e,t::ts=>tyIs P n e t&&Nat.beq (P.cellsOf e) t.size&&elsIs P n e ts
end
def AllD (w:World):Nat→Nat→Prop:=fun b o=>∃ u,w.cell? ⟨b,o,none⟩=some u
section
variable {P:Program} {w:World} {H:Type} {enc:TypeId×Value→H}
def ReadOK (P:Program) (w:World) (enc:TypeId×Value→H) (t:TypeId) (τ:Ty):Prop:=
 ∀ (fuel:Nat) (cs:List Value) (d:DataW H) (ps:List MemPlace),DataW.trod enc P w 0 (fun _=>true) true fuel t cs=some (d,ps)→(∀ m∈d.weights P t,m≤reachBytes) →
  ∃ x:τ.den,RepC w (AllD w) τ x cs∧WfD τ x
theorem zfm {e:TypeId}:∀ {l:List (DataW H)} {d:DataW H},d∈l→∀ m∈d.weights P e,m∈DataW.weightsAll P e l
 | a::l,d,h,m,hm=>by
  simp only [DataW.weightsAll,List.mem_append]
  rcases List.mem_cons.1 h with rfl | h
  · exact .inl hm
  · exact .inr (zfm h m hm)
 | [],d,h,_,_=>by simp at h
theorem zl9 {τ:Ty} {e:TypeId} (hel:ReadOK P w enc e τ) (hc:P.cellsOf e=τ.size) {a:Addr} {n:Nat} {elems:List (DataW H×List MemPlace)}
 (hw:∀ y∈elems,∀ m∈y.1.weights P e,m≤reachBytes) (hr:∀ i,i<elems.length→(w.cells? 0 (a.add (i*P.cellsOf e)) (P.cellsOf e)).bind (DataW.trod enc P w 0 (fun _=>true) true n e)=elems[i]?) :
 ∀ k,k≤elems.length→∃ (l:List τ.den) (us:List Value),l.length=k∧RowOf (fun x us=>RepC w (AllD w) τ x us) l us∧us.length=k*τ.size∧(∀ (j:Nat) (u:Value),us[j]? = some u→w.cell? (a.add j)=some u)∧∀ x∈l,WfD τ x
 | 0,_=>⟨[],[],rfl,rfl,by simp,fun j u h=>by simp at h,fun x h=>by simp at h⟩
 | k + 1,hk=>by
  obtain ⟨l,us,hl,hrow,hul,hcell,hwf⟩:=zl9 hel hc hw hr k (by omega)
  have hk':k<elems.length:=by omega
  have h1:=hr k hk'
  rw [List.getElem?_eq_getElem hk',Option.bind_eq_some_iff] at h1
  obtain ⟨cs,hcs,htr⟩:=h1
  obtain ⟨_,hlen,hget⟩:=World.cells?_some hcs
  obtain ⟨x,hx,hxw⟩:=hel n cs _ _ htr (hw _ (List.getElem_mem hk'))
  refine ⟨l++[x],us++cs,by simp [hl],RowOf.append hrow ⟨cs,[],by simp,hx,rfl⟩,by rw [List.length_append,hul,hlen,hc,Nat.add_mul]; omega,?_,?_⟩
  · intro j u hj
    by_cases hlt:j<us.length
    · rw [List.getElem?_append_left hlt] at hj
      exact hcell j u hj
    · rw [List.getElem?_append_right (by omega)] at hj
      have hj2:j - us.length<P.cellsOf e:=by
       have:=(List.getElem?_eq_some_iff.1 hj).1
       omega
      have:=hget (j - us.length) hj2
      rw [hj,Addr.add_add,hc,← hul,show us.length+(j - us.length)=j from by omega] at this
      exact this
  · intro y hy
    rcases List.mem_append.1 hy with h | h
    · exact hwf y h
    · rw [List.mem_singleton.1 h]; exact hxw
theorem zih {n:Nat} {cs:List Value} (hel:∀ t τ,tyIs P n t τ=true→ReadOK P w enc t τ) (m:Nat) (f0:List Field) :
 ∀ (fs:List Field) (ts:List Ty) (off:Nat),tysIs P n fs ts off=true→cs.length=off+sizeL ts→∀ (xs:List (DataW H×List MemPlace)),xs.length=fs.length→(∀ (i:Nat) (f:Field),fs[i]? = some f→DataW.trod enc P w 0 (fun _=>true) true m f.type ((cs.drop f.offset).take (P.cellsOf f.type))=xs[i]?) →
  (∀ q∈DataW.weightsEach P (fs.map (·.type)) (xs.map (·.1)),q≤reachBytes)→∃ x:denL ts,RepCL w (AllD w) ts x (cs.drop off)∧WfL ts x
 | [],[],off,_,hl,xs,_,_,_=>⟨(),by simp [RepCL]; simp [sizeL] at hl; omega,trivial⟩
 | f :: fs,t::ts,off,h,hl,xs,hxl,hx,hw=>by
  simp only [tysIs,Bool.and_eq_true,nbeq] at h
  obtain ⟨⟨⟨h1,h2⟩,h3⟩,h4⟩:=h
  match xs,hxl with
  | y :: ys,hxl =>
   have e0:=hx 0 f rfl
   simp only [List.getElem?_cons_zero] at e0
   simp only [List.map_cons,DataW.weightsEach,List.mem_append] at hw
   obtain ⟨x,hxr,hxw⟩:=hel f.type t h1 m _ _ _ e0 (fun q hq=>hw q (.inl hq))
   obtain ⟨z,hzr,hzw⟩:=zih (cs:=cs) hel m f0 fs ts (off+t.size) h4 (by simp only [sizeL] at hl; omega) ys (by simpa using hxl) (fun i g hg=>by simpa using hx (i+1) g (by simpa using hg)) (fun q hq=>hw q (.inr hq))
   refine ⟨consD t ts x z,?_,zj1 hxw hzw⟩
   have:=zig hxr hzr
   rw [h2,h3] at this
   have e:cs.drop off=(cs.drop off).take t.size++cs.drop (off+t.size):=by
    rw [← List.drop_drop,List.take_append_drop]
   rw [e]
   exact this
 | [],_::_,_,h,_,_,_,_,_=>by simp [tysIs] at h
 | _::_,[],_,h,_,_,_,_,_=>by simp [tysIs] at h
theorem zj2 {n:Nat} {cs:List Value} (hel:∀ t τ,tyIs P n t τ=true→ReadOK P w enc t τ) (m:Nat) (e:TypeId) :
 ∀ (ts:List Ty) (off:Nat),elsIs P n e ts=true→cs.length=off*P.cellsOf e+sizeL ts→∀ (xs:List (DataW H×List MemPlace)),xs.length=ts.length→(∀ (i:Nat),i<xs.length→DataW.trod enc P w 0 (fun _=>true) true m e ((cs.drop ((off+i)*P.cellsOf e)).take (P.cellsOf e))=xs[i]?) →
  (∀ q∈DataW.weightsAll P e (xs.map (·.1)),q≤reachBytes)→∃ x:denL ts,RepCL w (AllD w) ts x (cs.drop (off*P.cellsOf e))∧WfL ts x
 | [],off,_,hl,xs,_,_,_=>⟨(),by simp [RepCL]; simp [sizeL] at hl; omega,trivial⟩
 | t :: ts,off,h,hl,xs,hxl,hx,hw=>by
  simp only [elsIs,Bool.and_eq_true,nbeq] at h
  obtain ⟨⟨h1,h3⟩,h4⟩:=h
  match xs,hxl with
  | y :: ys,hxl =>
   have e0:=hx 0 (by simp)
   simp only [List.getElem?_cons_zero,Nat.add_zero] at e0
   simp only [List.map_cons,DataW.weightsAll,List.mem_append] at hw
   obtain ⟨x,hxr,hxw⟩:=hel e t h1 m _ _ _ e0 (fun q hq=>hw q (.inl hq))
   obtain ⟨z,hzr,hzw⟩:=zj2 (cs:=cs) hel m e ts (off+1) h4 (by simp only [sizeL] at hl; rw [Nat.add_mul]; omega) ys (by simpa using hxl) (fun i hi=>by
    have:=hx (i+1) (by simpa using hi)
    rw [show off+1+i=off+(i+1) from by omega]
    simpa using this) (fun q hq=>hw q (.inr hq))
   refine ⟨consD t ts x z,?_,zj1 hxw hzw⟩
   have:=zig hxr hzr
   have e2:cs.drop (off*P.cellsOf e)=(cs.drop (off*P.cellsOf e)).take (P.cellsOf e)++cs.drop ((off+1)*P.cellsOf e):=by
    rw [Nat.add_mul,Nat.one_mul,← List.drop_drop,List.take_append_drop]
   rw [e2]
   exact this
theorem zdl:∀ (n:Nat) (t:TypeId) (τ:Ty),tyIs P n t τ=true→ReadOK P w enc t τ
 | 0,t,τ,h=>by simp [tyIs] at h
 | n + 1,t,τ,h=>by
  intro fuel cs d ps htr hw
  unfold tyIs at h
  split at h
  · rename_i hu
    obtain ⟨q,rfl,_,hq⟩:=DataW.trod_int hu htr
    simp [Lit.wf,IntKind.min,IntKind.max,IntKind.bits,IntKind.signed] at hq
    refine ⟨UInt8.ofNat q.toNat,?_,trivial⟩
    simp only [RepC]
    have e1:(UInt8.ofNat q.toNat).toNat=q.toNat:=by simp [UInt8.toNat_ofNat']; omega
    rw [e1]
    simp
    omega
  · rename_i k k' hu
    simp only [Bool.and_eq_true,decide_eq_true_eq] at h
    obtain ⟨rfl,hk⟩:=h
    obtain ⟨q,rfl,_,hq⟩:=DataW.trod_int hu htr
    refine ⟨(q:Int),?_,?_⟩
    · simp only [RepC]
      exact ⟨fun e=>absurd e hk,by simp⟩
    · simp only [WfD]
      simpa [Lit.wf] using hq
  · rename_i hu
    obtain ⟨q,rfl,_⟩:=DataW.trod_bool hu htr
    exact ⟨(q:Bool),by simp [RepC],trivial⟩
  · rename_i hu
    obtain ⟨s,rfl,hx,h3⟩:=DataW.trod_string hu htr
    simp only [Prod.mk.injEq] at hx
    obtain ⟨rfl,_⟩:=hx
    simp [DataW.weights,reachBytes] at hw
    exact ⟨(s.data.toList:List UInt8),⟨by simp [strMax]; omega,s,rfl,rfl⟩,by simp [WfD,reach]; omega⟩
  · rename_i e e' hu
    simp only [Bool.and_eq_true,nbeq,decide_eq_true_eq] at h
    obtain ⟨⟨⟨h1,h2⟩,h3⟩,hsz⟩:=h
    rcases DataW.trod_slice hu htr with ⟨rfl,hx⟩ | ⟨a,len,cap,elems,rest,n',_,rfl,hx,hb,hl,hm,hlen,hel,hsp,hns⟩
    · exact ⟨[],⟨by simp,none,0,[],rfl,by simp,rfl,fun h=>by simp at h⟩,by simp [WfD]⟩
    · simp only [Prod.mk.injEq] at hx
      obtain ⟨rfl,_⟩:=hx
      simp only [DataW.weights,hu,List.mem_cons,List.mem_append] at hw
      have hbig:=hw _ (.inl rfl)
      have hlen2:len≤reachBytes:=by
       have:elems.length≤(elems.map (·.1)).length+(rest.map (·.1)).length:=by simp
       have h5:elems.length*1≤((elems.map (·.1)).length+(rest.map (·.1)).length)*P.bytesOf e':=Nat.mul_le_mul this h3
       omega
      obtain ⟨l,us,q1,q2,q3,q4,q5⟩:=zl9 (zdl n e' e h1) h2 (a:=a) (n:=n') (elems:=elems) (fun y hy m hm=>hw m (.inr (.inl (zfm (List.mem_map.2 ⟨y,hy,rfl⟩) m hm)))) (fun i hi=>hel i (by omega)) elems.length (Nat.le_refl _)
      refine ⟨l,⟨by simp [strMax,reachBytes] at hlen2 ⊢; omega,some a,cap,us,by rw [q1,hlen],by omega,q2,fun h0 => ?_⟩,⟨by rw [q1,hlen]; exact hlen2,q5⟩⟩
      rcases a with ⟨b,o,sp⟩
      cases sp with
      | none =>
       refine ⟨b,o,rfl,fun j u hj => ?_⟩
       have:=q4 j u hj
       rw [addp] at this
       exact ⟨⟨u,this⟩,this⟩
      | some sp =>
       exfalso
       have hpos:0<us.length:=by rw [q3]; exact Nat.mul_pos (by omega) hsz
       have:=q4 0 us[0] (by simp)
       unfold Addr.add World.cell? at this
       simp at this
       split at this<;>simp_all
  · rename_i ts fs hu
    simp only [Bool.and_eq_true,nbeq] at h
    obtain ⟨xs,m,_,hx,hl,hxl,hf⟩:=DataW.trod_struct hu htr
    simp only [Prod.mk.injEq] at hx
    obtain ⟨rfl,_⟩:=hx
    simp only [DataW.weights,hu] at hw
    have:=zih (cs:=cs) (zdl n) m [] fs.toList ts 0 h.1 (by omega) xs (by simpa using hxl) (fun i f hi=>hf i f (by simpa using hi)) hw
    simpa [RepC,WfD] using this
  · rename_i ts k e hu
    simp only [Bool.and_eq_true,nbeq] at h
    obtain ⟨xs,m,_,hx,hl,hxl,hf⟩:=DataW.trod_array hu htr
    simp only [Prod.mk.injEq] at hx
    obtain ⟨rfl,_⟩:=hx
    simp only [DataW.weights,hu] at hw
    have:=zj2 (cs:=cs) (zdl n) m e ts 0 h.2 (by omega) xs (by omega) (fun i hi=>by simpa using hf i (by omega)) hw
    simpa [RepC,WfD] using this
  · cases h
end
end Go.AM
set_option linter.unusedVariables false
set_option linter.unusedSimpArgs false
namespace Go.AM
open Go.RowKit Go.WideShapes Go.ChangeShapes Go.ChangeAt
section
variable {H:Type} {enc:TypeId×Value→H} {P:Program}
theorem zi3 {f:Func} {s:ChangeSpec} {apart fresh handsOn again:Bool} {W W':World} {args:Array Value} {v:Value} {ds gs:List (DataW H)} {before pa pv:List MemPlace}
 (hW:DataW.Whole enc P f.params.toList s.vars apart W args.toList ds gs before)
 (hres:∀ (b:Nat) (sp:Nat→Bool) (hd:Bool),DataW.TrodAll enc P W' b sp hd f.resultTypes.toList (v.resultList f.resultTypes.size) (s.fn H (ds++gs)).results [])
 (hargs:∀ sp:Nat→Bool,(∀ p∈before,sp p.block=true)→DataW.TrodAll enc P W' 0 sp true f.params.toList args.toList (s.fn H (ds++gs)).args pa)
 (hvars:∀ sp:Nat→Bool,(∀ p∈before,sp p.block=true)→DataW.TrodVars enc P W' sp s.vars (s.fn H (ds++gs)).vars pv)
 (hps:before=pa++pv) (hb:Below W.heap.size W W')
 (hok:∀ (j:Nat) (t:TypeId) (r:Value),f.resultTypes[j]? = some t→(v.resultList f.resultTypes.size)[j]? = some r→Value.okWide P W' .any 0 t r) :
 s.post enc P f apart fresh handsOn again W args v W':=by
 have hlt:∀ p∈before,p.block<W.heap.size:=fun p hp=>hW.lt p hp
 have hold:∀ p∈before,(fun b=>decide (b<W.heap.size)) p.block=true:=fun p hp=>by simpa using hlt p hp
 refine ⟨ds,gs,before,[],pa,pv,hW,hres _ _ _,hargs _ hold,hvars _ hold,World.keptBut_mono (fun p hp=>⟨hp,?_⟩) (hb.frame (· ∈ before)),fun _ => ?_⟩
 · rw [hps,List.mem_append] at hp
   exact Or.inr hp
 · obtain ⟨_,_,_,_,_,hz,hn⟩:=hW
   refine ⟨hok,_,_,([]++pa)++pv,⟨[]++pa,pv,trodAll_append (hargs _ (fun _ _=>rfl)) (hres _ _ _),hvars _ (fun _ _=>rfl),rfl,?_,?_⟩,?_⟩
   · intro b off hp
     have hin:MemPlace.cell b off∈before:=by rw [hps]; simpa using hp
     rw [hb.frozen (hlt _ hin)]
     exact hz b off hin
   · intro ha
     have:=hn ha
     rw [hps] at this
     simpa using this
   · intro p hp _
     rw [hps]
     simpa using hp
theorem ztp {W:World} {n base:Nat} {t:TypeId} {τ:Ty} {v:Value} (ht:tyIs P (n+1) t τ=true) (hval:Value.okWide P W .any base t v) {D:Nat→Nat→Prop} {x:τ.den} (hx:RepC W D τ x v.cells.toList) :
 RepV W ⟨D,[],[],[],[],bv0⟩ v (toAV τ x):=by
 have hc:RepL W ⟨D,[],[],[],[],bv0⟩ v.cells.toList (τ.cells x):=zax τ x _ hx
 have one:∀ {a:AV} {u:Value},v.cells=#[u]→v=u→τ.cells x=[a]→RepV W ⟨D,[],[],[],[],bv0⟩ v a:=by
  intro a u h1 h2 h3
  rw [h1,h3] at hc
  subst h2
  exact hc.2 0 v a rfl rfl
 unfold tyIs at ht
 split at ht
 · rename_i hu
   obtain ⟨q,rfl⟩:=okWide_int hu hval
   exact one rfl rfl rfl
 · rename_i k k' hu
   obtain ⟨q,rfl⟩:=okWide_int hu hval
   exact one rfl rfl rfl
 · rename_i hu
   obtain ⟨q,rfl⟩:=okWide_bool hu hval
   exact one rfl rfl rfl
 · rename_i hu
   obtain ⟨q,rfl⟩:=okWide_string hu hval
   exact one rfl rfl rfl
 · rename_i e e' hu
   obtain ⟨a,len,cap,rfl⟩:=okWide_slice hu hval
   exact one rfl rfl rfl
 · rename_i ts fs hu
   obtain ⟨cs,rfl,_⟩:=okWide_struct hu hval
   refine .agg cs _ (by simpa [Value.cells,Ty.cells] using hc.1) fun i v c hv hc' => ?_
   exact hc.2 i v c (by simpa [Value.cells] using hv) hc'
 · rename_i ts k e hu
   unfold Value.okWide at hval
   rw [hu] at hval
   obtain ⟨cs,rfl,_⟩:=hval
   refine .agg cs _ (by simpa [Value.cells,Ty.cells] using hc.1) fun i v c hv hc' => ?_
   exact hc.2 i v c (by simpa [Value.cells] using hv) hc'
 · cases ht
@[reducible] def denP:List Ty→Type
  | []=>Unit
  | t::ts=>t.den×denP ts
def WfP:(ts:List Ty)→denP ts→Prop
 | [],_=>True
 | t::ts,x=>WfD t x.1∧WfP ts x.2
def toAVs:(ts:List Ty)→denP ts→List AV
 | [],_=>[]
 | t::ts,x=>toAV t x.1::toAVs ts x.2
def tysOK (P:Program) (n:Nat):List TypeId→List Ty→Bool
 | [],[]=>true
 | t::ts,τ::τs=>tyIs P (n+1) t τ&&P.readableRec t&&Nat.blt t P.types.size&&tysOK P n ts τs
 | _,_=>false
theorem zj3 {W:World} {n base:Nat}:∀ {ts:List TypeId} {τs:List Ty} {vs:List Value} {ds:List (DataW H)} {ps:List MemPlace},tysOK P n ts τs=true→DataW.TrodAll enc P W 0 (fun _=>true) true ts vs ds ps →
 (∀ (j:Nat) t v,ts[j]? = some t→vs[j]? = some v→Value.okWide P W .any base t v)→(∀ m∈DataW.weightsEach P ts ds,m≤reachBytes)→∃ x:denP τs,RepL W ⟨AllD W,[],[],[],[],bv0⟩ vs (toAVs τs x)∧WfP τs x
 | [],[],vs,ds,ps,_,h,_,_=>by
  obtain ⟨rfl,rfl,rfl⟩:=trodAll_nil h
  exact ⟨(),.nil,trivial⟩
 | t::ts,τ::τs,vs,ds,ps,hty,h,hval,hw=>by
  obtain ⟨v,vs',d,ds',p,q,rfl,rfl,rfl,h1,h2⟩:=trodAll_cons h
  simp only [tysOK,Bool.and_eq_true] at hty
  simp only [DataW.weightsEach,List.mem_append] at hw
  obtain ⟨fuel,htr⟩:=h1
  obtain ⟨x,hx,hxw⟩:=zdl (n+1) t τ hty.1.1.1 fuel _ _ _ htr (fun m hm=>hw m (.inl hm))
  obtain ⟨y,hy,hyw⟩:=zj3 (n:=n) (base:=base) hty.2 h2 (fun j t v a b=>hval (j+1) t v a b) (fun m hm=>hw m (.inr hm))
  exact ⟨(x,y),.cons (ztp hty.1.1.1 (hval 0 t v rfl rfl) hx) hy,hxw,hyw⟩
 | [],_::_,_,_,_,h,_,_,_=>by simp [tysOK] at h
 | _::_,[],_,_,_,h,_,_,_=>by simp [tysOK] at h
theorem zii {W W':World} {n:Nat} (hl:laidOutB P=true) {sp:Nat→Bool}:∀ {ts:List TypeId} {τs:List Ty} {vs:List Value} {ds:List (DataW H)} {ps:List MemPlace},tysOK P n ts τs=true→DataW.TrodAll enc P W 0 (fun _=>true) true ts vs ds ps →
 (∀ p∈ps,W.sameAt W' p)→(∀ p∈ps,sp p.block=true)→DataW.TrodAll enc P W' 0 sp true ts vs ds ps
 | [],[],vs,ds,ps,_,h,_,_=>by
  obtain ⟨rfl,rfl,rfl⟩:=trodAll_nil h
  exact trodAll_mk0
 | t :: ts,τ::τs,vs,ds,ps,hty,h,hs,hsp=>by
  obtain ⟨v,vs',d,ds',p,q,rfl,rfl,rfl,h1,h2⟩:=trodAll_cons h
  simp only [tysOK,Bool.and_eq_true,nblt] at hty
  exact ⟨p,q,WideElems.Trod_stays hl hty.1.1.2 hty.1.2 h1 (fun x hx=>hs x (List.mem_append_left _ hx)) (fun x hx=>hsp x (List.mem_append_left _ hx)),
   zii hl hty.2 h2 (fun x hx=>hs x (List.mem_append_right _ hx)) (fun x hx=>hsp x (List.mem_append_right _ hx)),rfl⟩
 | [],_::_,_,_,_,h,_,_,_=>by simp [tysOK] at h
 | _::_,[],_,_,_,h,_,_,_=>by simp [tysOK] at h
def LawGoes (P:Program) (I:World→Prop) (g:Nat) (τs:List Ty):Prop:=
 ∀ (x:denP τs),WfP τs x→∀ (w:World) (vals:Array Value),I w→RepL w ⟨AllD w,[],[],[],[],bv0⟩ vals.toList (toAVs τs x)→Goes P g vals w (OrcPost (AllD w) w (.bool true))
theorem zo2 {fn : Func} {g n : Nat} {τs : List Ty} {b : TypeId} {s : ChangeSpec} {I : World → Prop} (hl : laidOutB P = true) (hfn : P.funcs[g]? = some fn) (hbody : fn.body.isSome = true) (hname : fn.name ≠ "runtime.NumGoroutine")
 (hty:tysOK P n fn.params.toList τs=true) (hres:fn.resultTypes=#[b]) (hb:P.underlying b=some .bool) (hvars:s.vars=[])
 (hspec:∀ ds:List (DataW H),ds.length=τs.length→s.fn H ds={ results:=[.lit (.bool true)],args:=ds }) (hgo:LawGoes P I g τs)
 {W:World} {base:Nat} {args:Array Value} {ds gs:List (DataW H)} {before:List MemPlace} {apart fresh handsOn again:Bool}
 (hval:∀ (j:Nat) t v,fn.params[j]? = some t→args[j]? = some v→Value.okWide P W .any base t v)
 (hW:DataW.Whole enc P fn.params.toList s.vars apart W args.toList ds gs before)
 (hw:(DataW.weightsEach P (fn.params.toList++s.plain.varTypes P) (ds++gs)).all (· ≤ reachBytes)=true) (hI:I W) :
 Calls P g args W fun e W'=>∃ v,e = .returned v∧s.post enc P fn apart fresh handsOn again W args v W':=by
 have hW':=hW
 obtain ⟨p,q,hA,hV,rfl,hfz,hnd⟩:=hW
 rw [hvars] at hV
 obtain ⟨rfl,rfl⟩:=trodVars_none hV
 have hpl:s.plain.varTypes P=[]:=by
  simp [ChangeSpec.plain,hvars,DataSpec.varTypes]
 rw [hpl] at hw
 simp only [List.append_nil,List.all_eq_true,decide_eq_true_eq] at hw
 obtain ⟨x,hx,hxw⟩:=zj3 (n:=n) (base:=base) hty hA (fun j t v a b=>hval j t v (by simpa using a) (by simpa using b)) hw
 have hlen:ds.length=τs.length:=by
  have:∀ {ts:List TypeId} {τs:List Ty} {vs:List Value} {ds:List (DataW H)} {ps:List MemPlace},tysOK P n ts τs=true→DataW.TrodAll enc P W 0 (fun _=>true) true ts vs ds ps→ds.length=τs.length:=by
   intro ts
   induction ts with
   | nil =>
    intro τs vs ds ps h1 h2
    cases τs with
    | nil=>obtain ⟨_,rfl,_⟩:=trodAll_nil h2; rfl
    | cons _ _=>simp [tysOK] at h1
   | cons t ts ih =>
    intro τs vs ds ps h1 h2
    cases τs with
    | nil=>simp [tysOK] at h1
    | cons τ τs =>
     obtain ⟨v,vs',d,ds',p,q,rfl,rfl,rfl,_,h4⟩:=trodAll_cons h2
     simp only [tysOK,Bool.and_eq_true] at h1
     simp [ih h1.2 h4]
  exact this hty hA
 have hcf:(callFunc g args).run P W = .ok (.enter g args) W:=by
  cases hb':fn.body with
  | none=>rw [hb'] at hbody; cases hbody
  | some c=>simp [callFunc,run_program,hfn,hb',hname]
 have hC:CallsIn Fence.wide 0 P g args W (fun | .returned v,w'=>OrcPost (AllD W) W (.bool true) v w' | _,_=>False):=by
  rcases hgo x hxw W args hI hx with ⟨_,h⟩ | ⟨v,w',h,_⟩
  · exact h
  · rw [hcf] at h; cases h
 refine (callsIn_wide.1 hC).mono fun e W' hR => ?_
 cases e with
 | panicked ch=>exact hR.elim
 | outgrown=>exact hR.elim
 | returned v =>
  obtain ⟨G',_,_,hst,hv⟩:=hR
  simp only [mat] at hv
  obtain rfl:=zah hv
  have hbel:=hst.below
  simp only [List.append_nil] at hW' ⊢
  have hsd:=hspec ds hlen
  refine ⟨_,rfl,zi3 (pa:=p) (pv:=[]) hW' (fun _ _ _ => ?_) (fun sp hsp => ?_) (fun sp hsp => ?_) (by simp) hbel (ok_one hres rfl (okWide_bool_mk hb _))⟩
  · simp only [List.append_nil]
    rw [hres,hsd]
    exact trodAll_cons_mk (shut_bool hb _) trodAll_mk0
  · simp only [List.append_nil]
    rw [hsd]
    exact zii hl hty hA (fun y hy=>hbel.same (hW'.lt y hy)) hsp
  · simp only [List.append_nil]
    rw [hsd,hvars]
    exact rfl
end
end Go.AM
set_option linter.unusedVariables false
set_option linter.unusedSimpArgs false
namespace Go.AM
open Go.RowKit
universe u
def lkp {α:Type u}:List (Nat×α)→Nat→Option α
 | [],_=>none
 | (k,a)::l,g=>bif Nat.beq k g then some a else lkp l g
def lkp2 {α:Type u} (e:α):List (Nat×Nat×α)→Nat→Nat→α
 | [],_,_=>e
 | (k,j,a)::l,g,i=>bif Nat.beq k g&&Nat.beq j i then a else lkp2 e l g i
theorem zb8 {α:Type u} {a:α}:∀ {l:List (Nat×α)} {g:Nat},lkp l g=some a→(g,a)∈l
 | [],g,h=>by cases h
 | (k,b)::l,g,h=>by
  simp only [lkp] at h
  cases hb:Nat.beq k g with
  | true =>
   rw [hb] at h
   obtain rfl:=nbeq.1 hb
   obtain rfl:=Option.some.inj h
   exact List.mem_cons_self
  | false=>rw [hb] at h; exact List.mem_cons_of_mem _ (zb8 h)
theorem zj4 {α:Type u} {e a:α}:∀ {l:List (Nat×Nat×α)} {g i:Nat},lkp2 e l g i=a→a=e∨(g,i,a)∈l
 | [],g,i,h => .inl h.symm
 | (k,j,b)::l,g,i,h=>by
  simp only [lkp2] at h
  cases hb:(Nat.beq k g&&Nat.beq j i) with
  | true =>
   rw [hb] at h
   simp only [Bool.and_eq_true,nbeq] at hb
   obtain ⟨rfl,rfl⟩:=hb
   obtain rfl:b=a:=h
   exact .inr List.mem_cons_self
  | false =>
   rw [hb] at h
   rcases zj4 h with h | h
   · exact .inl h
   · exact .inr (List.mem_cons_of_mem _ h)
def AllT {α:Type u} (p:α→Prop):List α→Prop
 | []=>True
 | a::l=>p a∧AllT p l
theorem allT {α:Type u} {p:α→Prop}:∀ {l:List α},AllT p l→∀ x∈l,p x
 | [],_,x,h=>by simp at h
 | a::l,hp,x,h=>by
  rcases List.mem_cons.1 h with rfl | h
  · exact hp.1
  · exact allT hp.2 x h
noncomputable def mkCx {X:Type} (tab:Nat→Option TI) (fns:List (Nat×Func)) (C:List (Nat×(List AV→Option Entry))) (loops:List (Nat×Nat×List (LoopI X))) (rfs:List (Nat×Nat×Func×List Nat×Nat))
 (conf:List (Nat×Nat×List (Nat×Nat))) (unroll:List (Nat×Nat×Nat)) (cuts:List (Nat×Nat×List (CutI X)):=[]) (rows:List (Nat×Ty):=[]) (pr:List (Nat×Pr):=[]) (bt:Option (Nat×Nat):=none) (keep:List Nat:=[]):Cx X:=
 { tab:=tab,fns:=lkp fns,C:=lkp C,loops:=lkp2 [] loops,unroll:=lkp2 0 unroll,cuts:=lkp2 [] cuts,conf:=lkp2 [] conf,rows:=lkp rows,pr:=lkp pr,bt:=bt,keep:=fun g=>keep.any (Nat.beq g),
   rfs:=fun g i=>match lkp2 none (rfs.map fun q=>(q.1,q.2.1,some q.2.2)) g i with
    | some (f,lv,k)=>some (f.ntmps,lv,rfNo f k)
    | none=>none }
theorem zve {X:Type} {cx:Cx X} {g N:Nat} {c:Code} (hcut:∀ i,cx.cuts g i=[]) (hd:(drawsIn c).all (fun q:Nat×Array Oper=>drawOK cx.tab q.2 (cx.conf g q.1) (masks q.2.toList []))=true)
 (hl:AllL (fun b=>AllT (LoopOK cx g N b) (loopsAt cx g b)) (loopsIn c)) (hr:AllL (fun q:Option Nat×List Nat×Code×Code=>∀ i,q.1=some i→∃ lv,cx.rfs g i=some (N,lv,q.2)) (rfsIn c)):okC cx g N c:=by
 refine zo1 c (fun q hq=>List.all_eq_true.1 hd q hq) (fun b hb=>allT (allL hl b hb)) (fun b hb ci hci => ?_) (fun q hq=>allL hr q hq)
 unfold cutsAt at hci
 split at hci
 · rw [hcut] at hci; cases hci
 · cases hci
theorem ztq {X:Type} {cx:Cx X} {g N:Nat} {c:Code} (hk:AllL (fun b=>AllT (CutOK cx g N b) (cutsAt cx g b)) (cutsIn c)) (hd:(drawsIn c).all (fun q:Nat×Array Oper=>drawOK cx.tab q.2 (cx.conf g q.1) (masks q.2.toList []))=true)
 (hl:AllL (fun b=>AllT (LoopOK cx g N b) (loopsAt cx g b)) (loopsIn c)) (hr:AllL (fun q:Option Nat×List Nat×Code×Code=>∀ i,q.1=some i→∃ lv,cx.rfs g i=some (N,lv,q.2)) (rfsIn c)):okC cx g N c:=
 zo1 c (fun q hq=>List.all_eq_true.1 hd q hq) (fun b hb=>allT (allL hl b hb)) (fun b hb=>allT (allL hk b hb)) (fun q hq=>allL hr q hq)
noncomputable def cutNo (f:Func) (k:Nat):Code:=(nth (cutsIn (f.body.getD .skip)) k).getD .skip
theorem ztr {X:Type} {P:Program} {W:World→Prop} {tab:Nat→Option TI} {fns:List (Nat×Func)} {C:List (Nat×(List AV→Option Entry))} {loops:List (Nat×Nat×List (LoopI X))} {rfs:List (Nat×Nat×Func×List Nat×Nat)}
 {conf : List (Nat × Nat × List (Nat × Nat))} {unroll : List (Nat × Nat × Nat)} {cuts : List (Nat × Nat × List (CutI X))} {rows : List (Nat × Ty)} {pr : List (Nat × Pr)} {bt : Option (Nat × Nat)} {keep : List Nat} (hm : P.follows .mixedOrders = true) (ht : TabOK P tab) (hf : AllT (fun p => P.funcs[p.1]? = some p.2 ∧ p.2.name ≠ "runtime.NumGoroutine") fns)
 (hC:AllT (fun p=>OrcOK P W p.1 p.2) C) (hc:AllT (fun p=>okC (mkCx tab fns C loops rfs conf unroll cuts rows pr bt keep) p.1 p.2.ntmps (p.2.body.getD .skip)) fns) (hr:AllT (fun q=>P.funcs[q.1]? = some q.2.2.1∧lkp fns q.1=some q.2.2.1) rfs)
 (hp:AllT (fun p=>PrOK P W p.1 p.2) pr:=by exact trivial) :
 CxOK P W (mkCx tab fns C loops rfs conf unroll cuts rows pr bt keep) where
 mixed:=hm
 tab:=ht
 C:=⟨fun g orc h=>allT hC _ (zb8 h),fun g p h=>allT hp _ (zb8 h)⟩
 fns:=fun g fn h=>allT hf _ (zb8 h)
 code:=fun g fn c h hb=>by
  have:=allT hc _ (zb8 h)
  simp only [hb,Option.getD_some] at this
  exact this
 rfs := fun g i N lv ps aS b h=>by
  simp only [mkCx] at h
  split at h
  · rename_i f lv' k hk
    rcases zj4 hk with h' | h'
    · cases h'
    · obtain ⟨q,hq,e⟩:=List.mem_map.1 h'
      simp only [Prod.mk.injEq,Option.some.injEq] at e
      obtain ⟨rfl,rfl,e⟩:=e
      have h1:=allT hr q hq
      have h2:=allT hc _ (zb8 h1.2)
      have h3:=Option.some.inj h
      simp only [Prod.mk.injEq] at h3
      obtain ⟨rfl,_,h3⟩:=h3
      have h4:=A_rf (f:=q.2.2.1) h2 k
      rw [show q.2.2.1=f from by rw [e]] at h4
      rw [h3] at h4
      exact h4
  · cases h
theorem castP {p q:Prop} (h:p=q) (x:q):p:=h▸x
theorem enters {P : Program} {g : Nat} {fn : Func} (h : P.funcs[g]? = some fn) (hb : fn.body.isSome = true) (hn : fn.name ≠ "runtime.NumGoroutine") (vals : Array Value) (w : World) : (callFunc g vals).run P w = .ok (.enter g vals) w := by
 cases hb':fn.body with
 | none=>rw [hb'] at hb; cases hb
 | some c=>simp [callFunc,run_program,h,hb',hn]
def Enters (P:Program) (g:Nat):Prop:=∀ (vals:Array Value) (w:World),(callFunc g vals).run P w = .ok (.enter g vals) w
theorem zan {P:Program} {g:Nat} (he:Enters P g) {vals:Array Value} {w:World} {R:Value→World→Prop} (h:Calls P g vals w fun e w'=>∃ v,e = .returned v∧R v w'):Goes P g vals w R:=by
 refine .inl ⟨he vals w,callsIn_wide.2 (h.mono fun e w' ⟨v,hv,hr⟩ => ?_)⟩
 subst hv
 exact hr
theorem zgy {D D':Nat→Nat→Prop} {w w':World} {v:Value} {a:AV} (hm:mat [] a=(a,[])) (hb:Below w.heap.size w w') (hD:∀ b o,D b o→D' b o) (hc:∀ b o,D' b o→∃ u,w'.cell? ⟨b,o,none⟩=some u)
 (h0:∀ b o,D' b o→D b o∨w.heap.size≤b) (hv:RepV w' ⟨D',[],[],[],[],bv0⟩ v a):OrcPost D w a v w':=by
 refine ⟨⟨D',[],[],[],[],bv0⟩,rfl,hD,?_,by rw [hm]; exact hv⟩
 rw [hm]
 exact
 { below:=hb
   b0:=hb.size
   bxl:=rfl
   box:=fun r b cs h1 h2=>by simp at h1
   virt:=fun r cs h1 h2=>by simp at h1
   inj:=fun r r' b h1 h2=>by simp at h1
   dat:=fun b o hbo=>⟨hc b o hbo,by simp⟩
   dat0:=fun b o hbo=>h0 b o hbo
   tkl:=rfl
   tok:=fun t g ht=>by simp at ht
   tki:=fun t t' g g' h1 h2=>by simp at h1
   lpl:=rfl
   loop:=fun j p s h1 h2=>by simp at h1
   lpi:=fun j j' p p' h1 h2=>by simp at h1
   dfr:=fun d hd=>by simp at hd
   dfn:=by simp }
theorem zal {D:Nat→Nat→Prop} {w w':World} {v:Value} {a:AV} (hm:mat [] a=(a,[])) (hb:Below w.heap.size w w') (hc:∀ b o,D b o→∃ u,w.cell? ⟨b,o,none⟩=some u) (hv:RepV w' ⟨D,[],[],[],[],bv0⟩ v a):OrcPost D w a v w':=by
 refine zgy hm hb (fun _ _ h=>h) (fun b o h => ?_) (fun b o h => .inl h) hv
 obtain ⟨u,hu⟩:=hc b o h
 exact ⟨u,by rw [hb.cell (p:=⟨b,o,none⟩) (by
  unfold World.cell? at hu
  simp only at hu
  split at hu
  · rename_i h1
    exact (Array.getElem?_eq_some_iff.1 h1).1
  · cases hu)]; exact hu⟩
theorem zma {w:World} {b o:Nat} {u:Value} (h:w.cell? ⟨b,o,none⟩=some u):b<w.heap.size:=by
 unfold World.cell? at h
 simp only at h
 split at h
 · rename_i h1
   exact (Array.getElem?_eq_some_iff.1 h1).1
 · cases h
end Go.AM
set_option linter.unusedVariables false
set_option linter.unusedSimpArgs false
namespace Go.AM
open Go.RowKit
def big47:Nat:=140737488355328
namespace O
def index1 (n:Nat) (s sub:List UInt8):Option Int:=match sub with
 | [c]=>some (Lib.indexByte s c)
 | _=>none
end O
section
variable {P:Program} {W:World→Prop} {g:Nat}
theorem repl2 {w:World} {G:GS} {vals:Array Value} {a b:AV} (h:RepL w G vals.toList [a,b]):∃ u v,vals=#[u,v]∧RepV w G u a∧RepV w G v b:=by
 rcases vals with ⟨l⟩
 match l,h with
 | [u,v],h=>exact ⟨u,v,rfl,h.2 0 u a rfl rfl,h.2 1 v b rfl rfl⟩
 | [],h=>simp [RepL] at h
 | [_],h=>simp [RepL] at h
 | _::_::_::_,h=>simp [RepL] at h
theorem repl1 {w:World} {G:GS} {vals:Array Value} {a:AV} (h:RepL w G vals.toList [a]):∃ u,vals=#[u]∧RepV w G u a:=by
 rcases vals with ⟨l⟩
 match l,h with
 | [u],h=>exact ⟨u,rfl,h.2 0 u a rfl rfl⟩
 | [],h=>simp [RepL] at h
 | _::_::_,h=>simp [RepL] at h
theorem repl3 {w:World} {G:GS} {vals:Array Value} {a b c:AV} (h:RepL w G vals.toList [a,b,c]):∃ u v x,vals=#[u,v,x]∧RepV w G u a∧RepV w G v b∧RepV w G x c:=by
 rcases vals with ⟨l⟩
 match l,h with
 | [u,v,x],h=>exact ⟨u,v,x,rfl,h.2 0 u a rfl rfl,h.2 1 v b rfl rfl,h.2 2 x c rfl rfl⟩
 | [],h=>simp [RepL] at h
 | [_],h=>simp [RepL] at h
 | [_,_],h=>simp [RepL] at h
 | _::_::_::_::_,h=>simp [RepL] at h
theorem zmb {w:World} {G:GS} {v:Value} {τ:Ty} {l:List τ.den} {c:Cap} (h:RepV w G v (.sl τ l c)):RepC w G.D (.sl τ) l [v]:=by cases h with | sl _ _ _ _ h _=>exact h
theorem zo3 (he:Enters P g) (h:∀ (s:ByteArray) (c:UInt8) (w:World),Calls P g #[.string s,.string ⟨#[c]⟩] w fun e w'=>e = .returned (.int .i64 (Lib.indexByte s.data.toList c))∧w'=w) (n:Nat) :
 FnOK P W g [.str,.str] (.one (.int .i64)) (fun x=>O.index1 n x.1 x.2.1):=by
 rintro ⟨s,sub,_⟩ y hy w D vals hw ha hc
 obtain ⟨u,v,rfl,hu,hv⟩:=repl2 ha
 obtain ⟨bs,rfl,hbs,_⟩:=zo hu
 obtain ⟨cs,rfl,hcs,_⟩:=zo hv
 simp only [O.index1] at hy
 by_cases hsub:∃ c,sub=[c]
 · obtain ⟨c,rfl⟩:=hsub
   simp only [Option.some.injEq] at hy
   subst hy
   have e:cs=⟨#[c]⟩:=by
    cases cs with
    | mk a=>cases a; simp at hcs; rw [hcs]
   subst e
   refine zan he ((h bs c w).mono fun e w' ⟨h1,h2⟩=>⟨_,h1,?_⟩)
   subst h2
   have hbs:bs.data.toList=s:=hbs
   rw [hbs]
   exact zal rfl (Below.refl _ _) hc (.int _ _ (by simp))
 · split at hy
   · exact absurd ⟨_,rfl⟩ hsub
   · cases hy
theorem zj5 {w:World} {D:Nat→Nat→Prop}:∀ {l:List UInt8} {us:List Value},RowOf (fun x us=>RepC w D .u8 x us) l us→∀ (j:Nat) x,l[j]? = some x→us[j]? = some (.int .u8 (x.toNat:Int))
 | [],us,h,j,x,hj=>by simp at hj
 | y::l,us,h,j,x,hj=>by
  obtain ⟨v1,v2,rfl,h1,h2⟩:=h
  simp only [RepC] at h1
  subst h1
  cases j with
  | zero=>simp at hj; subst hj; simp
  | succ j=>simpa using zj5 (w:=w) (D:=D) h2 j x (by simpa using hj)
end
end Go.AM
set_option linter.unusedVariables false
set_option linter.unusedSimpArgs false
namespace Go.AM
open Go.RowKit
namespace O
def atoi (n:Nat) (s:List UInt8):Option (Int×Bool×Unit):=bif Nat.ble s.length big47 then match Lib.atoiAll s with
 | .ok v=>some (v,false,())
 | .range=>some (Lib.atoiSat s,true,())
 | _=>some (0,true,()) else none
def trimR (n:Nat) (s set:List UInt8):Option (List UInt8):=match set with
 | [c]=>bif Nat.blt c.toNat 128&&Nat.ble s.length big47 then some (Lib.trimRightB s c) else none
 | _=>none
def trimL (n:Nat) (s set:List UInt8):Option (List UInt8):=match set with
 | [c]=>bif Nat.blt c.toNat 128&&Nat.ble s.length big47 then some (Lib.trimLeftB s c) else none
 | _=>none
def repeat' (n:Nat) (s:List UInt8) (c:Int):Option (List UInt8):=bif decide (0≤c)&&Nat.ble c.toNat big47&&Nat.ble (s.length*c.toNat) big47 then some (Lib.repeatL s c.toNat) else none
def mul64 (n:Nat) (x y:Int):Option (Int×Int×Unit):=bif decide (0≤x∧x<18446744073709551616∧0≤y∧y<18446744073709551616) then some (((x.toNat*y.toNat / 18446744073709551616:Nat):Int),((x.toNat*y.toNat % 18446744073709551616:Nat):Int),()) else none
def add64 (n:Nat) (x y c:Int):Option (Int×Int×Unit):=bif decide (0≤x∧x<18446744073709551616∧0≤y∧y<18446744073709551616∧0≤c∧c≤1) then some ((((x.toNat+y.toNat+c.toNat) % 18446744073709551616:Nat):Int),(((x.toNat+y.toNat+c.toNat) / 18446744073709551616:Nat):Int),()) else none
end O
section
variable {P:Program} {W:World→Prop} {g:Nat}
theorem zq8 {P:Program} {g:Nat} {vals:Array Value} {w w':World} {v:Value} {R:Value→World→Prop} (h:(callFunc g vals).run P w = .ok (.value v) w') (hr:R v w'):Goes P g vals w R:=.inr ⟨v,w',h,hr⟩
theorem zo4 {cs:ByteArray} {c:UInt8} (h:cs.data.toList=[c]):cs=⟨#[c]⟩:=by
 cases cs with
 | mk a=>cases a; simp at h; rw [h]
theorem zts (he:Enters P g) (h0:∀ (s:ByteArray),s.size≤140737488355328→∀ v,Lib.atoiAll s.data.toList = .ok v→∀ w,W w→Calls P g #[.string s] w fun e w'=>e = .returned (.tuple #[.int .i64 v,.nilIface])∧Below w.heap.size w w')
 (h1:∀ (s:ByteArray),s.size≤140737488355328→(∀ v,Lib.atoiAll s.data.toList ≠ .ok v)→Lib.atoiAll s.data.toList ≠ .range→∀ w,W w→Calls P g #[.string s] w fun e w'=>(∃ t p,e = .returned (.tuple #[.int .i64 0,.iface t p]))∧Below w.heap.size w w')
 (h2:∀ (s:ByteArray),s.size≤140737488355328→Lib.atoiAll s.data.toList = .range→∀ w,W w→Calls P g #[.string s] w fun e w'=>(∃ t p,e = .returned (.tuple #[.int .i64 (Lib.atoiSat s.data.toList),.iface t p]))∧Below w.heap.size w w') (n:Nat) :
 FnOK P W g [.str] (.many [.int .i64,.err]) (fun x=>O.atoi n x.1):=by
 rintro ⟨s,_⟩ y hy w D vals hw ha hc
 obtain ⟨u,rfl,hu⟩:=repl1 ha
 obtain ⟨bs,rfl,hbs,_⟩:=zo hu
 have hbs:bs.data.toList=s:=hbs
 simp only [O.atoi] at hy
 obtain ⟨hb,hy2⟩:=zb hy
 clear hy
 simp only [nble,big47] at hb
 have hsz:bs.size≤140737488355328:=by rw [zav,hbs]; exact hb
 have fin:∀ {v:Int} {b:Bool} {e:Value} {w':World},(b=false∧e = .nilIface∨b=true∧∃ t p,e = .iface t p)→Below w.heap.size w w'→OrcPost D w (.tup [.int .i64 v,.err b]) (.tuple #[.int .i64 v,e]) w':=by
  intro v b e w' hh hbe
  refine zal rfl hbe hc (.tup _ _ rfl fun i x c hx hcx => ?_)
  match i,hx,hcx with
  | 0,hx,hcx=>simp at hx hcx; subst hx; subst hcx; exact .int _ _ (by simp)
  | 1,hx,hcx =>
   simp at hx hcx
   subst hx
   subst hcx
   rcases hh with ⟨rfl,rfl⟩ | ⟨rfl,t,p,rfl⟩
   · exact .err0
   · exact .err1 t p
  | i+2,hx,hcx=>simp at hx
 split at hy2
 · rename_i v hv
   simp only [Option.some.injEq] at hy2
   subst hy2
   exact zan he ((h0 bs hsz v (by rw [hbs]; exact hv) w hw).mono fun e w' ⟨e1,e2⟩=>⟨_,e1,fin (.inl ⟨rfl,rfl⟩) e2⟩)
 · rename_i hv
   simp only [Option.some.injEq] at hy2
   subst hy2
   have:=h2 bs hsz (by rw [hbs]; exact hv) w hw
   rw [hbs] at this
   exact zan he (this.mono fun e w' ⟨⟨t,p,e1⟩,e2⟩=>⟨_,e1,fin (.inr ⟨rfl,t,p,rfl⟩) e2⟩)
 · rename_i n1 n2
   simp only [Option.some.injEq] at hy2
   subst hy2
   exact zan he ((h1 bs hsz (fun v=>by rw [hbs]; exact n1 v) (by rw [hbs]; exact n2) w hw).mono fun e w' ⟨⟨t,p,e1⟩,e2⟩=>⟨_,e1,fin (.inr ⟨rfl,t,p,rfl⟩) e2⟩)
theorem zo5 (s:List UInt8) (c:UInt8):(Lib.trimLeftB s c).length≤s.length:=by
 unfold Lib.trimLeftB
 exact (List.dropWhile_sublist _).length_le
theorem zo6 (s:List UInt8) (c:UInt8):(Lib.trimRightB s c).length≤s.length:=by
 unfold Lib.trimRightB
 have:=(List.dropWhile_sublist (p:=fun b=>b==c) (l:=s.reverse)).length_le
 simpa using this
theorem zq9 (he:Enters P g) (h:∀ (s:ByteArray) (c:UInt8),c.toNat<128→∀ w,s.size≤9223372036854775807→Calls P g #[.string s,.string ⟨#[c]⟩] w fun e w'=>e = .returned (.string ⟨(Lib.trimRightB s.data.toList c).toArray⟩)∧w'=w) (n:Nat) :
 FnOK P W g [.str,.str] (.one .str) (fun x=>O.trimR n x.1 x.2.1):=by
 rintro ⟨s,set,_⟩ y hy w D vals hw ha hc
 obtain ⟨u,v,rfl,hu,hv⟩:=repl2 ha
 obtain ⟨bs,rfl,hbs,hm⟩:=zo hu
 obtain ⟨cs,rfl,hcs,_⟩:=zo hv
 have hbs:bs.data.toList=s:=hbs
 have hm:s.length≤strMax:=hm
 simp only [O.trimR] at hy
 by_cases hset:∃ c,set=[c]
 · obtain ⟨c,rfl⟩:=hset
   obtain rfl:=zo4 hcs
   simp only at hy
   obtain ⟨hb,hy2⟩:=zb hy
   clear hy
   simp only [Bool.and_eq_true,nblt,nble,big47] at hb
   simp only [Option.some.injEq] at hy2
   subst hy2
   have hsz:bs.size=List.length s:=by rw [zav,hbs]
   refine zan he ((h bs c hb.1 w (by omega)).mono fun e w' ⟨h1,h2⟩=>⟨_,h1,?_⟩)
   subst h2
   rw [hbs]
   have:=zo6 s c
   exact zal rfl (Below.refl _ _) hc (.str _ _ (by simp) (by omega))
 · split at hy
   · exact absurd ⟨_,rfl⟩ hset
   · cases hy
theorem zra (he:Enters P g) (h:∀ (s:ByteArray) (c:UInt8),c.toNat<128→∀ w,Calls P g #[.string s,.string ⟨#[c]⟩] w fun e w'=>e = .returned (.string ⟨(Lib.trimLeftB s.data.toList c).toArray⟩)∧w'=w) (n:Nat) :
 FnOK P W g [.str,.str] (.one .str) (fun x=>O.trimL n x.1 x.2.1):=by
 rintro ⟨s,set,_⟩ y hy w D vals hw ha hc
 obtain ⟨u,v,rfl,hu,hv⟩:=repl2 ha
 obtain ⟨bs,rfl,hbs,hm⟩:=zo hu
 obtain ⟨cs,rfl,hcs,_⟩:=zo hv
 have hbs:bs.data.toList=s:=hbs
 have hm:s.length≤strMax:=hm
 simp only [O.trimL] at hy
 by_cases hset:∃ c,set=[c]
 · obtain ⟨c,rfl⟩:=hset
   obtain rfl:=zo4 hcs
   simp only at hy
   obtain ⟨hb,hy2⟩:=zb hy
   clear hy
   simp only [Bool.and_eq_true,nblt,nble,big47] at hb
   simp only [Option.some.injEq] at hy2
   subst hy2
   refine zan he ((h bs c hb.1 w).mono fun e w' ⟨h1,h2⟩=>⟨_,h1,?_⟩)
   subst h2
   rw [hbs]
   have:=zo5 s c
   exact zal rfl (Below.refl _ _) hc (.str _ _ (by simp) (by omega))
 · split at hy
   · exact absurd ⟨_,rfl⟩ hset
   · cases hy
theorem zj6 {w:World} {G:GS} {a b:Int}:RepV w G (.tuple #[.int .u64 a,.int .u64 b]) (.tup [.int .u64 a,.int .u64 b]):=by
 refine .tup _ _ rfl fun i x c hx hcx => ?_
 match i,hx,hcx with
 | 0,hx,hcx=>simp at hx hcx; subst hx; subst hcx; exact .int _ _ (by simp)
 | 1,hx,hcx=>simp at hx hcx; subst hx; subst hcx; exact .int _ _ (by simp)
 | i+2,hx,hcx=>simp at hx
theorem zrb (he:Enters P g) (h:∀ (x y:Nat),x<18446744073709551616→y<18446744073709551616→∀ w,Calls P g #[.int .u64 x,.int .u64 y] w fun e w'=>e = .returned (.tuple #[.int .u64 ((x*y / 18446744073709551616:Nat):Int),.int .u64 ((x*y % 18446744073709551616:Nat):Int)])∧w'=w) (n:Nat) :
 FnOK P W g [.int .u64,.int .u64] (.many [.int .u64,.int .u64]) (fun x=>O.mul64 n x.1 x.2.1):=by
 rintro ⟨x,y',_⟩ y hy w D vals hw ha hc
 obtain ⟨u,v,rfl,hu,hv⟩:=repl2 ha
 obtain ⟨rfl,_⟩:=zj hu
 obtain ⟨rfl,_⟩:=zj hv
 simp only [O.mul64] at hy
 obtain ⟨hb,hy2⟩:=zb hy
 clear hy
 simp only [decide_eq_true_eq] at hb
 obtain ⟨hx0,hx1,hy0,hy1⟩:=hb
 obtain ⟨p,rfl⟩:=Int.eq_ofNat_of_zero_le hx0
 obtain ⟨q,rfl⟩:=Int.eq_ofNat_of_zero_le hy0
 simp only [Int.ofNat_eq_natCast,Int.toNat_natCast,Option.some.injEq] at hy2
 subst hy2
 refine zan he ((h p q (by omega) (by omega) w).mono fun e w' ⟨h1,h2⟩=>⟨_,h1,?_⟩)
 subst h2
 exact zal rfl (Below.refl _ _) hc zj6
theorem zrc (h:∀ (x y c:Nat),x<18446744073709551616→y<18446744073709551616→c≤1→∀ w,(callFunc g #[.int .u64 x,.int .u64 y,.int .u64 c]).run P w = .ok (.value (.tuple #[.int .u64 (((x+y+c) % 18446744073709551616:Nat):Int),.int .u64 (((x+y+c) / 18446744073709551616:Nat):Int)])) w) (n:Nat) :
 FnOK P W g [.int .u64,.int .u64,.int .u64] (.many [.int .u64,.int .u64]) (fun x=>O.add64 n x.1 x.2.1 x.2.2.1):=by
 rintro ⟨x,y',c,_⟩ y hy w D vals hw ha hc
 obtain ⟨u,v,z,rfl,hu,hv,hz⟩:=repl3 ha
 obtain ⟨rfl,_⟩:=zj hu
 obtain ⟨rfl,_⟩:=zj hv
 obtain ⟨rfl,_⟩:=zj hz
 simp only [O.add64] at hy
 obtain ⟨hb,hy2⟩:=zb hy
 clear hy
 simp only [decide_eq_true_eq] at hb
 obtain ⟨hx0,hx1,hy0,hy1,hc0,hc1⟩:=hb
 obtain ⟨p,rfl⟩:=Int.eq_ofNat_of_zero_le hx0
 obtain ⟨q,rfl⟩:=Int.eq_ofNat_of_zero_le hy0
 obtain ⟨r,rfl⟩:=Int.eq_ofNat_of_zero_le hc0
 simp only [Int.ofNat_eq_natCast,Int.toNat_natCast,Option.some.injEq] at hy2
 subst hy2
 exact zq8 (h p q r (by omega) (by omega) (by omega) w) (zal rfl (Below.refl _ _) hc zj6)
theorem zll {w:World} {t:TypeId} {s:ByteArray}:Below w.heap.size w (Lib.bytesWorld w t s):=
 ⟨by unfold Lib.bytesWorld World.freeze; split<;>rfl,by unfold Lib.bytesWorld World.freeze; split<;>rfl,by unfold Lib.bytesWorld World.freeze; split<;>rfl,by rw [Lib.bytesWorld_size]; omega,fun j hj=>Lib.bytesWorld_at_old w t s j hj⟩
theorem zmc {w0 w:World} {b:Nat} {v:Value} (h:w0.cell? ⟨b,0,none⟩=some v) (hb:Below w0.heap.size w0 w):w.cell? ⟨b,0,none⟩=some v:=by rw [hb.cell (p:=⟨b,0,none⟩) (zma h)]; exact h
end
end Go.AM
set_option linter.unusedVariables false
set_option linter.unusedSimpArgs false
namespace Go.AM
open Go.MapKept Go.RowKit
theorem zdm (key:Int):∀ (es:List MapEntry) (i:Nat),(∀ x∈es,∃ n,x.key = .int .i64 n∧n≠key)→Instr.findNow (.int .i64) (.int .i64 key) es i=some none
 | [],_,_=>rfl
 | e::es,i,h=>by
  obtain ⟨n,h1,h2⟩:=h e (by simp)
  have:(key==n)=false:=by simpa using fun h=>h2 h.symm
  simp only [Instr.findNow,h1,Instr.sameNow,if_true,this]
  exact zdm key es (i+1) (fun x hx=>h x (by simp [hx]))
theorem zhm (w:World) (o:Obj):(w.alloc o).heap[w.heap.size]? = some o:=by
 show (w.heap.push o)[w.heap.size]? = _
 simp
theorem ztt (w:World) (o o':Obj):({ w.alloc o with heap:=(w.alloc o).heap.setIfInBounds w.heap.size o' }:World)=w.alloc o':=by
 show ({ w with heap:=(w.heap.push o).setIfInBounds w.heap.size o' }:World)={ w with heap:=w.heap.push o' }
 congr 1
 refine Array.ext_getElem? fun i => ?_
 rw [Array.getElem?_setIfInBounds,Array.getElem?_push,Array.getElem?_push]
 by_cases h:i=w.heap.size
 · subst h; simp
 · simp [h,Ne.symm h]
theorem zi4 {P:Program} {t k e:TypeId} (ht:P.underlying t=some (.map k e)) (hk:P.underlying k=some (.int .i64)) (w:World) (es:Array MapEntry) (c:Nat) (key:Int) (v:Value) (hno:∀ x∈es.toList,∃ n,x.key = .int .i64 n∧n≠key) :
 (Instr.mapUpdate t (.map (some w.heap.size)) (.int .i64 key) v).run P (w.alloc (.map es c)) = .ok () (w.alloc (.map (es.push { key:=.int .i64 key,val:=v,born:=c }) (c+1))):=by
 have hb:=zhm w (.map es c)
 have hf:=zdm key es.toList 0 hno
 have hc:∀ w',(Instr.checkKey false 10000 k (.int .i64 key)).run P w' = .ok () w':=fun w'=>run_checkKey hk (by simp [IsKey]) false 9999
 have hfk:∀ w',(Instr.findKey k (.int .i64 key) es.toList).run P w' = .ok none w':=fun w'=>by
  simp only [Instr.findKey,Sem.run_bind,run_underlying hk,Result.andThen_ok,hf]
  rfl
 have hs:=run_setObj_map (P:=P) (.map (es.push { key:=.int .i64 key,val:=v,born:=c }) (c+1)) hb
 rw [ztt] at hs
 simp only [Instr.mapUpdate,Sem.run_bind,run_underlying ht,Result.andThen_ok,Go.MapKept.run_getObj_map hb,hc,hfk,hs]
theorem zb4 {P:Program} {t k e:TypeId} (ht:P.underlying t=some (.map k e)) (hk:P.underlying k=some (.int .i64)) (w:World) (es:Array MapEntry) (c:Nat) (key:Int) {i:Nat} {v:Value} (hf:Instr.findNow (.int .i64) (.int .i64 key) es.toList 0=some (some (i,v))) (he:es.isEmpty=false) :
 (Instr.lookup t (.map (some w.heap.size)) (.int .i64 key) true).run P (w.alloc (.map es c)) = .ok (.tuple #[v,.bool true]) (w.alloc (.map es c)):=by
 have hb:=zhm w (.map es c)
 have hc:∀ b w',(Instr.checkKey b 10000 k (.int .i64 key)).run P w' = .ok () w':=fun b w'=>run_checkKey hk (by simp [IsKey]) b 9999
 have hfk:∀ w',(Instr.findKey k (.int .i64 key) es.toList).run P w' = .ok (some (i,v)) w':=fun w'=>by
  simp only [Instr.findKey,Sem.run_bind,run_underlying hk,Result.andThen_ok,hf]
  rfl
 simp only [Instr.lookup,Sem.run_bind,run_underlying ht,Result.andThen_ok,Go.MapKept.run_getObj_map hb,hc,hfk,Sem.run_pure,if_true]
theorem zi5 {P:Program} {t k e:TypeId} (ht:P.underlying t=some (.map k e)) (hk:P.underlying k=some (.int .i64)) (w:World) (es:Array MapEntry) (c:Nat) (key:Int) (hno:∀ x∈es.toList,∃ n,x.key = .int .i64 n∧n≠key) {z:Value} (hz:∀ w',(zeroValue e).run P w' = .ok z w') :
 (Instr.lookup t (.map (some w.heap.size)) (.int .i64 key) true).run P (w.alloc (.map es c)) = .ok (.tuple #[z,.bool false]) (w.alloc (.map es c)):=by
 have hb:=zhm w (.map es c)
 have hf:=zdm key es.toList 0 hno
 have hc:∀ b w',(Instr.checkKey b 10000 k (.int .i64 key)).run P w' = .ok () w':=fun b w'=>run_checkKey hk (by simp [IsKey]) b 9999
 have hfk:∀ w',(Instr.findKey k (.int .i64 key) es.toList).run P w' = .ok none w':=fun w'=>by
  simp only [Instr.findKey,Sem.run_bind,run_underlying hk,Result.andThen_ok,hf]
  rfl
 simp only [Instr.lookup,Sem.run_bind,run_underlying ht,Result.andThen_ok,Go.MapKept.run_getObj_map hb,hc,hfk,Sem.run_pure,if_true,hz]
def wordsMap:Array MapEntry:=#[⟨.int .i64 1,.string ⟨#[99]⟩,0⟩,⟨.int .i64 2,.string ⟨#[103]⟩,1⟩,⟨.int .i64 3,.string ⟨#[109,115]⟩,2⟩,⟨.int .i64 4,.string ⟨#[104]⟩,3⟩]
theorem zij {w:World} (o:Obj):Below w.heap.size w (w.alloc o):=(Below.refl _ _).alloc (Nat.le_refl _) o
def wordL (k:Int):List UInt8:=if k=1 then [99] else if k=2 then [103] else if k=3 then [109,115] else if k=4 then [104] else []
def wordE (k:Int):Int:=if k=1∨k=2∨k=3∨k=4 then 0 else 16
def O.word (n:Nat) (k:Int):Option (List UInt8×Int×Unit):=some (wordL k,wordE k,())
theorem zo7 (k:Int):(wordL k).length≤strMax:=by
 have:(wordL k).length≤2:=by
  unfold wordL
  repeat (first | split | decide)
 simp only [strMax]
 omega
theorem ztu {w:World} {G:GS} {l:List UInt8} {n:Int} (hl:l.length≤strMax):RepV w G (.tuple #[.string ⟨l.toArray⟩,.int .i64 n]) (.tup [.str l,.int .i64 n]):=by
 refine .tup _ _ rfl fun i v c hv hc => ?_
 match i,hv,hc with
 | 0,hv,hc =>
  simp only [List.getElem?_toArray,List.getElem?_cons_zero,Option.some.injEq] at hv hc
  subst hv; subst hc
  exact .str _ _ (by simp) hl
 | 1,hv,hc =>
  simp only [List.getElem?_toArray,List.getElem?_cons_succ,List.getElem?_cons_zero,Option.some.injEq] at hv hc
  subst hv; subst hc
  exact .int _ _ (by intro h; cases h)
 | i+2,hv,hc=>simp at hc
theorem ztv {P:Program} {W:World→Prop} {g:Nat} (he:Enters P g) (h:∀ (k:Int) (w:World),Calls P g #[.int .i64 k] w fun e w'=>e = .returned (.tuple #[.string ⟨(wordL k).toArray⟩,.int .i64 (wordE k)])∧Below w.heap.size w w') (n:Nat) :
 FnOK P W g [.int .i64] (.many [.str,.int .i64]) (fun x=>O.word n x.1):=by
 rintro ⟨k,_⟩ y hy w D vals hw ha hc
 obtain ⟨u,rfl,hu⟩:=repl1 ha
 obtain ⟨rfl,_⟩:=zj hu
 simp only [O.word,Option.some.injEq] at hy
 subst hy
 exact zan he ((h k w).mono fun e w' ⟨h1,h2⟩=>⟨_,h1,zal rfl h2 hc (ztu (zo7 k))⟩)
end Go.AM
set_option linter.unusedVariables false
set_option linter.unusedSimpArgs false
namespace Go.AM
open Go.RowKit
def splitL (c:UInt8):List UInt8→List (List UInt8)
 | []=>[[]]
 | x::s=>if x=c then []::splitL c s else match splitL c s with
  | p::ps=>(x::p)::ps
  | []=>[[x]]
theorem zbz (c:UInt8) (s:List UInt8):splitL c s≠[]:=by
 cases s with
 | nil=>simp [splitL]
 | cons x s =>
  simp only [splitL]
  split
  · simp
  · split<;>simp
namespace O
def split1 (n:Nat) (s sep:List UInt8):Option (List (List UInt8)):=match sep with
 | [c]=>bif decide (s.length<4294967281) then some (splitL c s) else none
 | _=>none
end O
theorem zfn (c:UInt8):∀ (s:List UInt8),c∉s→splitL c s=[s]
 | [],_=>rfl
 | x::s,h=>by
  simp only [List.mem_cons,not_or] at h
  simp only [splitL]
  rw [if_neg (fun e=>h.1 e.symm),zfn c s h.2]
theorem zgz (c:UInt8):∀ (p s:List UInt8),c∉p→splitL c (p++c::s)=p::splitL c s
 | [],s,_=>by simp [splitL]
 | x::p,s,h=>by
  simp only [List.mem_cons,not_or] at h
  simp only [List.cons_append,splitL]
  rw [if_neg (fun e=>h.1 e.symm),zgz c p s h.2]
theorem zd5 (c:UInt8):∀ (p q:List UInt8),c∉p→Lib.indexByte (p++c::q) c=p.length
 | [],q,_=>by simp [Lib.indexByte]
 | x::p,q,h=>by
  simp only [List.mem_cons,not_or] at h
  have ih:=zd5 c p q h.2
  simp only [List.cons_append,Lib.indexByte,ih]
  rw [if_neg (by simpa using fun e=>h.1 e.symm),if_neg (by simp only [beq_iff_eq]; omega)]
  rfl
theorem splitK_one (c:UInt8):∀ (k:Nat) (s:List UInt8),s.count c=k→Lib.splitK [c] 0 k s=splitL c s
 | 0,s,h=>by
  rw [zfn c s (List.count_eq_zero.1 h)]
  rfl
 | k + 1,s,h=>by
  have hm:c∈s:=List.count_pos_iff.1 (by omega)
  obtain ⟨p,q,rfl,hp⟩:∃ p q,s=p++c::q∧c∉p:=by
   clear h
   induction s with
   | nil=>simp at hm
   | cons x s ih =>
    by_cases hx:x=c
    · exact ⟨[],s,by simp [hx],by simp⟩
    · rcases List.mem_cons.1 hm with e | hm
      · exact absurd e.symm hx
      · obtain ⟨p,q,rfl,hp⟩:=ih hm
        exact ⟨x::p,q,rfl,by simp only [List.mem_cons,not_or]; exact ⟨fun e=>hx e.symm,hp⟩⟩
  have hi:Lib.index (p++c::q) [c]=p.length:=by rw [Lib.index_one,zd5 c p q hp]
  have hq:q.count c=k:=by
   rw [List.count_append,List.count_eq_zero.2 hp,List.count_cons_self] at h
   omega
  simp only [Lib.splitK,hi]
  rw [if_neg (by simp only [beq_iff_eq]; omega),zgz c p q hp]
  simp only [Int.toNat_natCast,Nat.add_zero,List.length_cons,List.length_nil,Nat.zero_add]
  rw [show (p++c::q).take p.length=p from by simp,show (p++c::q).drop (p.length+1)=q from by simp,splitK_one c k q hq]
section
variable {P:Program} {W:World→Prop} {g:Nat}
theorem zj7 {w:World} {D:Nat→Nat→Prop}:∀ (l:List ByteArray),(∀ b∈l,b.data.toList.length≤strMax)→RowOf (fun (x:List UInt8) us=>RepC w D .str x us) (l.map (·.data.toList)) (l.map Value.string)
 | [],_=>rfl
 | x::l,h=>⟨[.string x],l.map Value.string,rfl,by simp only [RepC]; exact ⟨h x (by simp),x,rfl,rfl⟩,zj7 l fun b hb=>h b (by simp [hb])⟩
theorem zb5 (c:UInt8):∀ (s p:List UInt8),p∈splitL c s→p.length≤s.length
 | [],p,h=>by simp [splitL] at h; simp [h]
 | x :: s,p,h=>by
  simp only [splitL] at h
  split at h
  · rcases List.mem_cons.1 h with rfl | h
    · simp
    · have:=zb5 c s p h; simp; omega
  · split at h
    · rename_i q qs e
      rcases List.mem_cons.1 h with rfl | h
      · have:=zb5 c s q (by rw [e]; simp); simp; omega
      · have:=zb5 c s p (by rw [e]; simp [h]); simp; omega
    · rename_i e; exact absurd e (zbz c s)
theorem zg0 (c:UInt8):∀ (s:List UInt8),(splitL c s).length=s.count c+1
 | []=>rfl
 | x :: s=>by
  have ih:=zg0 c s
  simp only [splitL]
  split
  · rename_i e; rw [e,List.count_cons_self,List.length_cons,ih]
  · rename_i hne
    split
    · rename_i p ps e
      rw [e] at ih
      rw [List.count_cons_of_ne (by simpa using hne),List.length_cons,← List.length_cons (a:=p),ih]
    · rename_i e; exact absurd e (zbz c s)
theorem zo8 (he:Enters P g) (h:∀ (s:ByteArray) (c:UInt8) (w:World),s.size<4294967281→Calls P g #[.string s,.string ⟨#[c]⟩] w fun e w'=>∃ (l:List ByteArray) (t:TypeId),e = .returned (.slice (some ⟨w.heap.size,0,none⟩) l.length l.length)∧w'=w.alloc (.cells (l.map Value.string).toArray t)∧l.map (·.data.toList)=splitL c s.data.toList) (n:Nat) :
 FnOK P W g [.str,.str] (.one (.sl .str .unk)) (fun x=>O.split1 n x.1 x.2.1):=by
 intro x y hy w D vals hw hr hc
 obtain ⟨s,sep,u⟩:=x
 obtain ⟨v1,v2,rfl,h1,h2⟩:=repl2 hr
 obtain ⟨bs,rfl,hbs,hbl⟩:=zo h1
 obtain ⟨bp,rfl,hbp,hbpl⟩:=zo h2
 clear hbpl
 simp only [O.split1] at hy
 split at hy
 · rename_i c
   have hsz:=(zb hy).1
   have hy2:=(zb hy).2
   simp only [decide_eq_true_eq] at hsz
   obtain rfl:=Option.some.inj hy2
   have hbp':bp=⟨#[c]⟩:=by
    apply ByteArray.ext
    apply Array.ext'
    simpa using hbp
   subst hbp'
   refine zan he ((h bs c w (by rw [zav,hbs]; exact hsz)).mono ?_)
   rintro e w' ⟨l,t,rfl,rfl,hl⟩
   rw [hbs] at hl
   refine ⟨_,rfl,?_⟩
   have hrow:∀ (w2:World) (D2:Nat→Nat→Prop),RowOf (fun (x:List UInt8) us=>RepC w2 D2 .str x us) (splitL c s) (l.map Value.string):=by
    intro w2 D2
    have hr:=zj7 (w:=w2) (D:=D2) l fun b hb=>by
     have hx:b.data.toList∈splitL c s:=by rw [← hl]; exact List.mem_map.2 ⟨b,hb,rfl⟩
     have h1:=zb5 c s _ hx
     have h2:(4294967281:Nat)≤strMax:=by decide
     omega
    rw [hl] at hr
    exact hr
   have hb:Below w.heap.size w (w.alloc (.cells (l.map Value.string).toArray t)):=(Below.refl _ _).alloc (Nat.le_refl _) _
   have hheap:(w.alloc (.cells (l.map Value.string).toArray t)).heap[w.heap.size]? = some (.cells (l.map Value.string).toArray t (0,0)):=World.alloc_heap_new w _
   refine zgy (D':=fun b o=>D b o∨(w.heap.size≤b∧∃ u,(w.alloc (.cells (l.map Value.string).toArray t)).cell? ⟨b,o,none⟩=some u)) rfl hb (fun b o h => .inl h) (fun b o h => ?_) (fun b o h=>h.elim .inl fun h => .inr h.1) ?_
   · rcases h with h | h
     · obtain ⟨u,hu⟩:=hc b o h
       exact ⟨u,by rw [hb.cell (p:=⟨b,o,none⟩) (zma hu)]; exact hu⟩
     · exact h.2
   · have hlen:(splitL c s).length=l.length:=by rw [← hl]; simp
     refine .sl _ _ _ _ ?_ trivial
     simp only [RepC]
     have hcnt:(splitL c s).length≤s.length+1:=by rw [zg0]; have:=List.count_le_length (a:=c) (l:=s); omega
     have hmx:(4294967281:Nat)≤strMax:=by decide
     refine ⟨by omega,some ⟨w.heap.size,0,none⟩,l.length,l.map Value.string,by rw [hlen],by omega,?_,fun _=>⟨w.heap.size,0,rfl,fun j u hj => ?_⟩⟩
     · have hr:=hrow default (fun _ _=>True)
       simp only [RepC] at hr
       exact hr
     · have hcell:(w.alloc (.cells (l.map Value.string).toArray t)).cell? ⟨w.heap.size,0+j,none⟩=some u:=by
        rw [Nat.zero_add,zr hheap]
        simpa using hj
       exact ⟨.inr ⟨Nat.le_refl _,u,hcell⟩,hcell⟩
 · cases hy
end
end Go.AM
set_option linter.unusedVariables false
set_option linter.unusedSimpArgs false
namespace Go.AM
open Go.RowKit
namespace O
def indexB (n:Nat) (s:List UInt8) (c:Int):Option Int:=some (Lib.indexByte s c.toNat.toUInt8)
end O
namespace O
def bindex (n:Nat) (s sub:List UInt8):Option Int:=match s,sub with
 | x::r,[c]=>some (Lib.indexByte (x::r) c)
 | _,_=>none
end O
theorem zo9 {P:Program} {W:World→Prop} {g:Nat} (he:Enters P g) (h:∀ (b o n c b2 o2 d:Nat) (xs:List Int) (cv:Int) (w:World),xs.length=n→(∀ i,i<n→w.cell? ⟨b,o+i,none⟩=some (.int .u8 (xs.getD i 0)))→w.cell? ⟨b2,o2,none⟩=some (.int .u8 cv) →
 Calls P g #[.slice (some ⟨b,o,none⟩) n c,.slice (some ⟨b2,o2,none⟩) 1 d] w fun e w'=>e = .returned (.int .i64 (Lib.indexByte (Lib.bytesOf xs) cv.toNat.toUInt8))∧w'=w) (n:Nat) :
 FnOK P W g [.sl .u8 .unk,.sl .u8 .unk] (.one (.int .i64)) (fun x=>O.bindex n x.1 x.2.1):=by
 rintro ⟨s,sub,_⟩ y hy w D vals hw ha hc
 obtain ⟨u,v,rfl,hu,hv⟩:=repl2 ha
 match s,sub,hy with
 | x :: r,[c],hy =>
  simp only [O.bindex,Option.some.injEq] at hy
  subst hy
  have get:∀ {l:List UInt8} {u:Value},0<l.length→RepC w D (.sl .u8) l [u]→∃ b o cc,u = .slice (some ⟨b,o,none⟩) l.length cc∧∀ (j:Nat) y,l[j]? = some y→w.cell? ⟨b,o+j,none⟩=some (.int .u8 (y.toNat:Int)):=by
   intro l u hl hr
   simp only [RepC] at hr
   obtain ⟨_,A,cc,us,hA,_,hrow,hcell⟩:=hr
   obtain rfl:u = .slice A l.length cc:=by simpa using hA
   obtain ⟨b,o,rfl,hcl⟩:=hcell hl
   exact ⟨b,o,cc,rfl,fun j y hy=>(hcl j _ (zj5 (w:=w) (D:=D) hrow j y hy)).2⟩
  obtain ⟨b,o,c1,rfl,h1⟩:=get (by simp) (zmb hu)
  obtain ⟨b2,o2,c2,rfl,h2⟩:=get (by simp) (zmb hv)
  have hb:Lib.bytesOf ((x::r).map fun y=>(y.toNat:Int))=x::r:=by
   unfold Lib.bytesOf
   rw [List.map_map]
   refine (List.map_congr_left fun y _ => ?_).trans (List.map_id _)
   simp
  refine zan he ((h b o (x::r).length c1 b2 o2 c2 ((x::r).map fun y=>(y.toNat:Int)) (c.toNat:Int) w (by simp) (fun i hi => ?_) (by simpa using h2 0 c rfl)).mono fun e w' ⟨k1,k2⟩=>⟨_,k1,?_⟩)
  · rw [h1 i (x::r)[i] (List.getElem?_eq_getElem hi),List.getD_eq_getElem?_getD,List.getElem?_map,List.getElem?_eq_getElem hi]
    rfl
  · subst k2
    rw [hb,show ((c.toNat:Int)).toNat.toUInt8=c by simp]
    exact zal rfl (Below.refl _ _) hc (.int _ _ (by simp))
 | [],_,hy=>cases hy
 | _::_,[],hy=>cases hy
 | _::_,_::_::_,hy=>cases hy
end Go.AM
set_option linter.unusedVariables false
set_option linter.unusedSimpArgs false
namespace Go.AM
abbrev TagD:=List UInt8×List UInt8
theorem blc (a b:UInt8) (x y:List UInt8):Op.bytesLess (a::x) (b::y)=(decide (a<b)||((a==b)&&Op.bytesLess x y)):=rfl
theorem zcj:∀ l:List UInt8,Op.bytesLess l l=false
 | []=>rfl
 | b::l=>by rw [blc,zcj l]; simp
theorem zs7 {a b:UInt8}:a<b↔a.toNat<b.toNat:=UInt8.lt_iff_toNat_lt
theorem zne {a b:UInt8}:a=b↔a.toNat=b.toNat:=⟨fun h=>by rw [h],fun h=>UInt8.toNat_inj.1 h⟩
theorem zf7:∀ a b c:List UInt8,Op.bytesLess a b=true→Op.bytesLess b c=true→Op.bytesLess a c=true
 | _,[],c,h,_=>by simp [Op.bytesLess] at h
 | _,_::_,[],_,h=>by simp [Op.bytesLess] at h
 | [],_::_,_::_,_,_=>rfl
 | x::a,y::b,z::c,h1,h2=>by
  rw [blc] at h1 h2 ⊢
  simp only [Bool.or_eq_true,Bool.and_eq_true,decide_eq_true_eq,beq_iff_eq,zs7,zne] at h1 h2 ⊢
  rcases h1 with h1 | ⟨h1,h3⟩<;>rcases h2 with h2 | ⟨h2,h4⟩
  · left; omega
  · left; omega
  · left; omega
  · right; exact ⟨by omega,zf7 a b c h3 h4⟩
theorem zf8:∀ a b:List UInt8,Op.bytesLess a b=false→Op.bytesLess b a=false→a=b
 | [],[],_,_=>rfl
 | [],_::_,h,_=>by simp [Op.bytesLess] at h
 | _::_,[],_,h=>by simp [Op.bytesLess] at h
 | x :: a,y::b,h1,h2=>by
  rw [blc] at h1 h2
  simp only [Bool.or_eq_false_iff,Bool.and_eq_false_iff,decide_eq_false_iff_not,beq_eq_false_iff_ne,ne_eq,zs7,zne] at h1 h2
  have e:x=y:=zne.2 (by omega)
  subst e
  rcases h1.2 with h | h
  · exact absurd rfl h
  · rcases h2.2 with k | k
    · exact absurd rfl k
    · rw [zf8 a b h k]
def ltT (a b:TagD):Bool:=if a.1=b.1 then Op.bytesLess a.2 b.2 else Op.bytesLess a.1 b.1
theorem zb6 (a:TagD):ltT a a=false:=by simp [ltT,zcj]
theorem zck {a b c:TagD} (h1:ltT a b=true) (h2:ltT b c=true):ltT a c=true:=by
 unfold ltT at *
 by_cases e1:a.1=b.1
 · rw [if_pos e1] at h1
   by_cases e2:b.1=c.1
   · rw [if_pos e2] at h2
     rw [if_pos (e1.trans e2)]
     exact zf7 _ _ _ h1 h2
   · rw [if_neg e2] at h2
     rw [if_neg (fun e=>e2 (e1.symm.trans e)),e1]
     exact h2
 · rw [if_neg e1] at h1
   by_cases e2:b.1=c.1
   · rw [if_neg (fun e=>e1 (e.trans e2.symm)),← e2]
     exact h1
   · rw [if_neg e2] at h2
     have h3:=zf7 _ _ _ h1 h2
     rw [if_neg (fun e=>by rw [e,zcj] at h3; cases h3)]
     exact h3
theorem zcl {a b:TagD} (h1:ltT a b=false) (h2:ltT b a=false):a=b:=by
 unfold ltT at *
 by_cases e1:a.1=b.1
 · rw [if_pos e1] at h1
   rw [if_pos e1.symm] at h2
   exact Prod.ext e1 (zf8 _ _ h1 h2)
 · rw [if_neg e1] at h1
   rw [if_neg (fun e=>e1 e.symm)] at h2
   exact absurd (zf8 _ _ h1 h2) e1
theorem zik {a b:TagD} (h:ltT a b=true):ltT b a=false:=by
 cases hb:ltT b a with
 | false=>rfl
 | true=>have:=zck h hb; rw [zb6] at this; cases this
theorem zg1 {a b c:TagD} (h1:ltT a b=false) (h2:ltT b c=false):ltT a c=false:=by
 cases hc:ltT a c with
 | false=>rfl
 | true =>
  cases hb:ltT b a with
  | true=>have:=zck hb hc; rw [this] at h2; cases h2
  | false =>
   have:=zcl h1 hb
   subst this
   rw [hc] at h2; cases h2
def insT (t:TagD):List TagD→List TagD
 | []=>[t]
 | x::xs=>if ltT x t then x::insT t xs else t::x::xs
def sortTags (l:List TagD):List TagD:=l.foldr insT []
theorem zev (t:TagD):∀ l,(insT t l).Perm (t::l)
 | [] => .refl _
 | x::xs=>by
  simp only [insT]
  split
  · exact ((zev t xs).cons x).trans (.swap t x xs)
  · exact .refl _
theorem zaz:∀ l,(sortTags l).Perm l
 | [] => .refl _
 | x::l=>(zev x _).trans ((zaz l).cons x)
theorem za3 (l:List TagD):(sortTags l).length=l.length:=(zaz l).length_eq
def SortedT (l:List TagD):Prop:=l.Pairwise fun a b=>ltT b a=false
theorem zfo (t:TagD):∀ l,SortedT l→SortedT (insT t l)
 | [],_=>by simp [insT,SortedT]
 | x :: xs,h=>by
  obtain ⟨h1,h2⟩:=List.pairwise_cons.1 h
  simp only [insT]
  split
  · rename_i hx
    refine List.pairwise_cons.2 ⟨fun y hy => ?_,zfo t xs h2⟩
    rcases List.mem_cons.1 ((zev t xs).mem_iff.1 hy) with rfl | hy
    · exact zik hx
    · exact h1 y hy
  · rename_i hx
    have hx:ltT x t=false:=by simpa using hx
    refine List.pairwise_cons.2 ⟨fun y hy => ?_,h⟩
    rcases List.mem_cons.1 hy with rfl | hy
    · exact hx
    · exact zg1 (h1 y hy) hx
theorem zbn:∀ l,SortedT (sortTags l)
 | [] => .nil
 | x::l=>zfo x _ (zbn l)
theorem zd6:∀ (l m:List TagD),l.Perm m→SortedT l→SortedT m→l=m
 | [],m,h,_,_=>by rw [List.nil_perm.1 h]
 | x::l,[],h,_,_=>by have:=h.length_eq; simp at this
 | x :: l,y::m,h,h1,h2=>by
  obtain ⟨a1,a2⟩:=List.pairwise_cons.1 h1
  obtain ⟨b1,b2⟩:=List.pairwise_cons.1 h2
  have hx:x∈y::m:=h.mem_iff.1 (by simp)
  have hy:y∈x::l:=h.mem_iff.2 (by simp)
  have e:x=y:=by
   rcases List.mem_cons.1 hx with e | hx
   · exact e
   · rcases List.mem_cons.1 hy with e | hy
     · exact e.symm
     · exact zcl (b1 x hx) (a1 y hy)
  subst e
  rw [zd6 l m (List.Perm.cons_inv h) a2 b2]
end Go.AM
set_option linter.unusedVariables false
set_option linter.unusedSimpArgs false
namespace Go.AM
open Go.RowKit
def LaidI (P:Program) (l:List (String×DataW Unit)) (w:World):Prop:=laidMetH P l w∧w.ShapedOpen P
section
variable {P:Program} {w:World} {l:List (String×DataW Unit)}
theorem znf (h:LaidI P l w) (hn:(l.filter fun x=>x.2.handleName?.isSome).isEmpty=true) {n:String} {d:DataW Unit} (hm:(n,d)∈l):Lib.VarReads P w n d:=by
 have h1:=h.1
 unfold laidMetH at h1
 rw [List.isEmpty_iff.1 hn] at h1
 exact Lib.laidMet.reads h1 hm
theorem zg2 (h:LaidI P l w) (hn:(l.filter fun x=>x.2.handleName?.isSome).isEmpty=true) {n nm:String} {d:DataW Unit} (i:Nat) (hm:l[i]? = some (n,.iface nm d)) {g:Nat} {t:TypeId} {ms:Array (String×TypeId)}
 (hg:P.globalNamed n=some g) (hty:(P.globals[g]?).map (·.type)=some t) (ht:P.underlying t=some (.interface ms)):∃ ev,w.cell? ⟨g,0,none⟩=some ev∧(ev = .nilIface∨∃ te pe,ev = .iface te pe):=by
 obtain ⟨g',t',cs,fuel,p,hg',ht',hvar,hd⟩:=znf h hn (List.mem_of_getElem? hm)
 obtain rfl:=Option.some.inj (hg.symm.trans hg')
 obtain rfl:=Option.some.inj (hty.symm.trans ht')
 cases fuel with
 | zero=>simp [DataW.trod] at hd
 | succ fuel =>
  unfold DataW.trod at hd
  rw [ht] at hd
  have hc:∃ u v,cs.toList=[.iface u v]:=by
   generalize cs.toList=q at hd
   split at hd<;>simp_all
  obtain ⟨u,v,hc⟩:=hc
  refine ⟨.iface u v,?_,.inr ⟨u,v,rfl⟩⟩
  rw [World.var?_cell hg hvar 0,← Array.getElem?_toList,hc]
  rfl
end
end Go.AM
set_option linter.unusedVariables false
namespace Go.AM
open Go.RowKit
def SV.arr (s:SV) (R:Type):Type:=
 match s with
 | .const _=>R
 | .agg []=>R
 | s=>s.den→R
def SV.lam {R:Type} (s:SV) (f:s.den→R):s.arr R:=
 match s,f with
 | .const _,f=>f ()
 | .agg [],f=>f ()
 | .agg (_::_),f=>f
 | .int _,f=>f
 | .bool,f=>f
 | .str,f=>f
 | .sl _ _,f=>f
 | .err,f=>f
 | .fn _ _ _,f=>f
 | .row _,f=>f
 | .ms _ _,f=>f
 | .mp,f=>f
def SV.app {R:Type} (s:SV) (f:s.arr R) (x:s.den):R:=
 match s,f,x with
 | .const _,f,_=>f
 | .agg [],f,_=>f
 | .agg (_::_),f,x=>f x
 | .int _,f,x=>f x
 | .bool,f,x=>f x
 | .str,f,x=>f x
 | .sl _ _,f,x=>f x
 | .err,f,x=>f x
 | .fn _ _ _,f,x=>f x
 | .row _,f,x=>f x
 | .ms _ _,f,x=>f x
 | .mp,f,x=>f x
def arrL:List SV→Type→Type
 | [],R=>R
 | v::vs,R=>v.arr (arrL vs R)
def lamL {R:Type}:(vs:List SV)→(sdenL vs→R)→arrL vs R
 | [],f=>f ()
 | v::vs,f=>v.lam fun a=>lamL vs fun b=>f (a,b)
def appL {R:Type}:(vs:List SV)→arrL vs R→sdenL vs→R
 | [],f,_=>f
 | v::vs,f,x=>appL vs (v.app f x.1) x.2
def arrE:List (Nat×SV)→Type→Type
 | [],R=>R
 | v::vs,R=>v.2.arr (arrE vs R)
def lamE {R:Type}:(vs:List (Nat×SV))→(sdenE vs→R)→arrE vs R
 | [],f=>f ()
 | v::vs,f=>v.2.lam fun a=>lamE vs fun b=>f (a,b)
def apE {R:Type}:(vs:List (Nat×SV))→arrE vs R→sdenE vs→R
 | [],f,_=>f
 | v::vs,f,x=>apE vs (v.2.app f x.1) x.2
def arrB:List (List SV)→Type→Type
 | [],R=>R
 | v::vs,R=>arrL v (arrB vs R)
def lamB {R:Type}:(vs:List (List SV))→(sdenB vs→R)→arrB vs R
 | [],f=>f ()
 | v::vs,f=>lamL v fun a=>lamB vs fun b=>f (a,b)
def appB {R:Type}:(vs:List (List SV))→arrB vs R→sdenB vs→R
 | [],f,_=>f
 | v::vs,f,x=>appB vs (appL v f x.1) x.2
def arrT:List Bool→Type→Type
 | [],R=>R
 | true::vs,R=>Nat→arrT vs R
 | false::vs,R=>arrT vs R
def lamT {R:Type}:(vs:List Bool)→(sdenT vs→R)→arrT vs R
 | [],f=>f ()
 | true::vs,f=>fun a=>lamT vs fun b=>f (a,b)
 | false::vs,f=>lamT vs f
def appT {R:Type}:(vs:List Bool)→arrT vs R→sdenT vs→R
 | [],f,_=>f
 | true::vs,f,x=>appT vs (f x.1) x.2
 | false::vs,f,x=>appT vs f x
def arrY:List (Nat×Nat×Nat×List (Nat×SV))→Type→Type
 | [],R=>R
 | v::vs,R=>arrE v.2.2.2 (arrY vs R)
def lamY {R:Type}:(vs:List (Nat×Nat×Nat×List (Nat×SV)))→(sdenY vs→R)→arrY vs R
 | [],f=>f ()
 | v::vs,f=>lamE v.2.2.2 fun a=>lamY vs fun b=>f (a,b)
def appY {R:Type}:(vs:List (Nat×Nat×Nat×List (Nat×SV)))→arrY vs R→sdenY vs→R
 | [],f,_=>f
 | v::vs,f,x=>appY vs (apE v.2.2.2 f x.1) x.2
def Shape.arr (s:Shape) (R:Type):Type:=arrE s.env (arrB s.bx (arrT s.tk (arrY s.ys R)))
def Shape.lam {R:Type} (s:Shape) (f:s.den→R):s.arr R:=lamE s.env fun a=>lamB s.bx fun b=>lamT s.tk fun c=>lamY s.ys fun d=>f (a,b,c,d)
def Shape.app {R:Type} (s:Shape) (f:s.arr R) (x:s.den):R:=appY s.ys (appT s.tk (appB s.bx (apE s.env f x.1) x.2.1) x.2.2.1) x.2.2.2
def xe {X:Type} (e:Shape) (ks:Ks X) (i:Nat):e.arr (Option X):=e.lam fun x=>ks.ex i (e.e x) (e.h x)
def xr {X:Type} (e:Shape) (ks:Ks X):e.arr (Option X):=e.lam fun x=>ks.ret (e.e x) (e.h x)
def xn {X:Type} (e:Shape) (ks:Ks X):e.arr (Option X):=e.lam fun x=>ks.nxt (e.e x) (e.h x)
def mkLi {X:Type} (d nb nt nl:Nat) (h:Shape) (exs:List (Nat×Shape)) (rets:List Shape) (n:Nat) (G:Nat→Ks X→h.arr (Option X)):LoopI X:=⟨d,⟨nb,nt,nl⟩,h,exs,rets,fun ks s=>h.app (G n ks) s⟩
def mkCi {X:Type} (d nb nt nl:Nat) (h:Shape) (nx:List Shape) (exs:List (Nat×Shape)) (rets:List Shape) (G:Ks X→h.arr (Option X)):CutI X:=⟨d,⟨nb,nt,nl⟩,h,nx,exs,rets,fun ks s=>h.app (G ks) s⟩
theorem lok {X:Type} {cx:Cx X} {g N d nb nt nl n:Nat} {b:Code} {h:Shape} {exs:List (Nat×Shape)} {rets:List Shape} {G:Nat→Ks X→h.arr (Option X)} (h0:∀ ks s,h.app (G 0 ks) s=none:=by intros; kernel_rfl)
 (h1:∀ m ks s,h.app (G (m+1) ks) s=exec cx (inl cx d) ⟨g,N,⟨nb,nt,nl⟩,d⟩ (h.y s) b (loopKs ⟨nb,nt,nl⟩ (h.y s) h exs rets (fun s=>h.app (G m ks) s) ks) (h.e s) (h.h s):=by intros; kernel_rfl):LoopOK cx g N b (mkLi d nb nt nl h exs rets n G):=
 ⟨fun m ks s=>h.app (G m ks) s,n,fun _ _=>rfl,h0,h1⟩
def LO {X:Type} (cx:Cx X) (g:Nat) (f:Func) (k:Nat) (li:LoopI X):Prop:=LoopOK cx g f.ntmps (loopNo f k) li
def CO {X:Type} (cx:Cx X) (g:Nat) (f:Func) (k:Nat) (ci:CutI X):Prop:=CutOK cx g f.ntmps (cutNo f k) ci
theorem J {p q:Prop} (a:p) (b:q):p∧q:=⟨a,b⟩
theorem T1 {p:Prop} (a:p):p∧True:=⟨a,trivial⟩
theorem rfo {X:Type} {cx:Cx X} {g i N:Nat} {lv:List Nat} {q:List Nat×Code×Code} (h:cx.rfs g i=some (N,lv,q)):∀ j,some i=some j→∃ lv,cx.rfs g j=some (N,lv,q):=fun j e=>⟨lv,by cases e; exact h⟩
theorem okc {X:Type} {cx:Cx X} {g N:Nat} {c:Code} {l r:Prop} (hl:l) (hr:r) (hcut:∀ i,cx.cuts g i=[]:=by exact fun _=>rfl) (hd:(drawsIn c).all (fun q:Nat×Array Oper=>drawOK cx.tab q.2 (cx.conf g q.1) (masks q.2.toList []))=true:=by kernel_rfl)
 (el:AllL (fun b=>AllT (LoopOK cx g N b) (loopsAt cx g b)) (loopsIn c)=l:=by kernel_rfl) (er:AllL (fun q:Option Nat×List Nat×Code×Code=>∀ i,q.1=some i→∃ lv,cx.rfs g i=some (N,lv,q.2)) (rfsIn c)=r:=by kernel_rfl):okC cx g N c:=
 zve hcut hd (castP el hl) (castP er hr)
theorem okk {X:Type} {cx:Cx X} {g N:Nat} {c:Code} {k l r:Prop} (hk:k) (hl:l) (hr:r) (hd:(drawsIn c).all (fun q:Nat×Array Oper=>drawOK cx.tab q.2 (cx.conf g q.1) (masks q.2.toList []))=true:=by kernel_rfl)
 (ek:AllL (fun b=>AllT (CutOK cx g N b) (cutsAt cx g b)) (cutsIn c)=k:=by kernel_rfl) (el:AllL (fun b=>AllT (LoopOK cx g N b) (loopsAt cx g b)) (loopsIn c)=l:=by kernel_rfl) (er:AllL (fun q:Option Nat×List Nat×Code×Code=>∀ i,q.1=some i→∃ lv,cx.rfs g i=some (N,lv,q.2)) (rfsIn c)=r:=by kernel_rfl):okC cx g N c:=
 ztq (castP ek hk) hd (castP el hl) (castP er hr)
noncomputable def oc (g:Nat) (ps:List SV) (rv:RV) (f:arrL ps (Option rv.den)):Nat×(List AV→Option Entry):=(g,orcOf ps rv (appL ps f))
end Go.AM
set_option linter.unusedVariables false
set_option linter.unusedSimpArgs false
namespace Go.AM
open Go.RowKit Go.Sort Go.Proofs
def encT (x:TagD):List Value:=[.string ⟨x.1.toArray⟩,.string ⟨x.2.toArray⟩]
def cmpS (a b:List UInt8):Int:=if Op.bytesLess a b then -1 else if Op.bytesLess a b||a==b then 0 else 1
def cmpL (x y:TagD):Int:=if cmpS x.1 y.1=0 then cmpS x.2 y.2 else cmpS x.1 y.1
theorem zil (a b:List UInt8):cmpS a b=0↔a=b:=by
 unfold cmpS
 by_cases h:Op.bytesLess a b=true
 · rw [if_pos h]
   constructor
   · intro e; cases e
   · rintro rfl; rw [zcj] at h; cases h
 · rw [if_neg h]
   by_cases e:a=b
   · subst e; simp
   · have:Op.bytesLess a b=false:=by simpa using h
     simp [this,e]
theorem zj8 (a b:List UInt8):decide (cmpS a b<0)=Op.bytesLess a b:=by
 unfold cmpS
 cases h:Op.bytesLess a b
 · simp
   split<;>simp
 · simp
theorem zcm (x y:TagD):ltOf cmpL x y=ltT x y:=by
 unfold ltOf cmpL ltT
 by_cases e:x.1=y.1
 · rw [if_pos ((zil _ _).2 e),if_pos e,zj8]
 · rw [if_neg (fun h=>e ((zil _ _).1 h)),if_neg e,zj8]
theorem swoT:SWO (ltOf cmpL) where
 irrefl x:=by rw [zcm]; exact zb6 x
 trans x y z h1 h2:=by rw [zcm] at *; exact zck h1 h2
 ntrans x y z h1 h2:=by rw [zcm] at *; exact zg1 h1 h2
theorem zs8 {b:ByteArray} {s:List UInt8} (h:b.data.toList=s):b=⟨s.toArray⟩:=by
 apply ByteArray.ext
 apply Array.ext'
 simpa using h
abbrev TyTag:Ty:=.agg [.str,.str]
theorem zj9 {w:World} {D:Nat→Nat→Prop}:∀ {l:List TagD} {us:List Value},RowOf (fun (x:TagD) us=>RepC w D TyTag x us) l us→us=l.flatMap encT∧∀ x∈l,x.1.length≤strMax∧x.2.length≤strMax
 | [],us,h=>⟨h,fun x hx=>by cases hx⟩
 | x :: l,us,h=>by
  obtain ⟨v1,v2,rfl,h1,h2⟩:=h
  obtain ⟨e1,e2⟩:=zj9 h2
  simp only [RepC,RepCL] at h1
  obtain ⟨a,b,rfl,⟨ha,b1,rfl,hb1⟩,⟨hb,b2,rfl,hb2⟩⟩:=h1
  refine ⟨?_,fun y hy => ?_⟩
  · rw [e1,zs8 hb1,zs8 hb2]; rfl
  · rcases List.mem_cons.1 hy with rfl | hy
    · exact ⟨ha,hb⟩
    · exact e2 y hy
theorem zka {w:World} {D:Nat→Nat→Prop}:∀ {l:List TagD},(∀ x∈l,x.1.length≤strMax∧x.2.length≤strMax)→RowOf (fun (x:TagD) us=>RepC w D TyTag x us) l (l.flatMap encT)
 | [],_=>rfl
 | x::l,h=>by
  refine ⟨encT x,l.flatMap encT,rfl,?_,zka fun y hy=>h y (by simp [hy])⟩
  simp only [RepC,RepCL]
  obtain ⟨h1,h2⟩:=h x (by simp)
  exact ⟨[.string ⟨x.1.toArray⟩],[.string ⟨x.2.toArray⟩],rfl,⟨h1,_,rfl,by simp⟩,⟨h2,_,rfl,by simp⟩⟩
theorem zf9:∀ (l:List TagD) (j:Nat),j<l.length*2→(l.flatMap encT)[j]? = some (encT (l.toArray[j / 2]!))[j % 2]!
 | [],j,h=>by simp at h
 | x::l,0,h=>rfl
 | x::l,1,h=>rfl
 | x :: l,j+2,h=>by
  have ih:=zf9 l j (by simp at h; omega)
  have e1:(j+2) / 2=j / 2+1:=by omega
  have e2:(j+2) % 2=j % 2:=by omega
  rw [e1,e2]
  have e3:(x::l).toArray[j / 2+1]! = l.toArray[j / 2]!:=by
   simp [Array.getElem!_eq_getD]
  rw [e3]
  simp only [List.flatMap_cons]
  rw [List.getElem?_append_right (by simp [encT])]
  simpa [encT] using ih
theorem zng (l:List TagD):(flatK encT 2 l.toArray).toList=l.flatMap encT:=by
 apply List.ext_getElem?
 intro j
 by_cases h:j<l.length*2
 · rw [zf9 l j h]
   simp [flatK,h]
 · rw [List.getElem?_eq_none (by simp; omega),List.getElem?_eq_none]
   have:(l.flatMap encT).length=l.length*2:=by simp [List.length_flatMap,encT]; rw [List.map_const',List.sum_replicate_nat]
   omega
theorem sort_ok {P:Program} {g f:Nat} (he:Enters P g)
 (hc:∀ (q cap:Nat) (d:Array TagD) (w:World),HoldsK encT 2 w q 0 d→q<w.heap.size→d.size<4611686018427387904→Calls P g #[.slice (some ⟨q,0,none⟩) d.size cap,.func (.func f) #[] #[]] w fun e w' =>
  e = .returned (.tuple #[])∧∃ d' n os,PermIn 0 d.size d d'∧SortedIn (ltOf cmpL) 0 d.size d'∧w'=sortWorldK encT 2 w q 0 n d' os)
 (h0:∀ (A:Option Addr) (w:World),Calls P g #[.slice A 0 0,.func (.func f) #[] #[]] w fun e w'=>e = .returned (.tuple #[])∧w.grownBy w' none):PrOK P (fun _=>True) g (.sort TyTag f sortTags):=by
 refine ⟨fun w q cap t cs l D _ hh hcs hlc hl hrow hD hDc hF => ?_,fun w A _=>zan he ((h0 A w).mono fun e w' ⟨h1,h2⟩=>⟨_,h1,rfl,h2⟩)⟩
 obtain ⟨hus,hlens⟩:=zj9 hrow
 have hsz2:TyTag.size=2:=rfl
 rw [hsz2] at hcs hus
 have hcl:l.length*2≤cs.size:=by rw [hcs]; omega
 have hH:HoldsK encT 2 w q 0 l.toArray:=by
  intro j hj
  simp only [size_flatK,List.size_toArray] at hj
  refine ⟨?_,by simp [World.frozen?,hh]⟩
  rw [Nat.zero_add,zr hh,get_flatK _ _ _ _ (by simpa using hj),← Array.getElem?_toList]
  have e:=zf9 l j hj
  rw [← hus,List.getElem?_take_of_lt (by simpa using hj)] at e
  exact e
 have hql:q<w.heap.size:=(Array.getElem?_eq_some_iff.1 hh).1
 refine zan he ((hc q cap l.toArray w hH hql (by have h9:strMax=4611686018427387904:=rfl; rw [List.size_toArray]; rw [h9] at hl; exact hl)).mono ?_)
 rintro e w' ⟨rfl,d',n,os,hp,hs,rfl⟩
 obtain ⟨p1,_,p3⟩:=hp
 have hds:d'.size=l.length:=by simpa using p1
 have hperm:d'.toList.Perm l:=by
  have e1:(d'.extract 0 l.toArray.size).toList=d'.toList:=by simp only [Array.toList_extract,List.size_toArray,List.extract_eq_take_drop,Nat.sub_zero,List.drop_zero]; exact List.take_of_length_le (by rw [Array.length_toList,hds]; exact Nat.le_refl _)
  have e2:(l.toArray.extract 0 l.toArray.size).toList=l:=by simp
  rw [e1,e2] at p3
  exact p3
 have hsorted:SortedT d'.toList:=by
  refine List.pairwise_iff_getElem.2 fun i j hi hj hij => ?_
  simp only [Array.length_toList] at hi hj
  have:=hs i j (Nat.zero_le _) hij (by simp; omega)
  rw [zcm,getElem!_pos d' i hi,getElem!_pos d' j hj] at this
  simpa using this
 have hd:d'.toList=sortTags l:=zd6 _ _ (hperm.trans (zaz l).symm) hsorted (zbn l)
 have hda:d'=(sortTags l).toArray:=Array.ext' (by simpa using hd)
 subst hda
 have hgr:w.grownBy (sortWorldK encT 2 w q 0 n (sortTags l).toArray os) (some q):=by
  refine ⟨rfl,rfl,rfl,?_,fun k hk hne => ?_⟩
  · exact Go.Proofs.size_sortWorldK_c encT 2 w q 0 n _ os
  · have hkq:k≠q:=fun e=>hne (by rw [e])
    have hk2:k<(putRowK encT 2 (Sort.ahead w n) q 0 (sortTags l).toArray).heap.size:=by simpa [putRowK,putRow,mapBlock,Sort.ahead] using hk
    simp only [sortWorldK,Go.Sort.grow]
    rw [Array.getElem?_append_left hk2]
    simp [putRowK,putRow,mapBlock,Sort.ahead,Array.getElem?_modify,Ne.symm hkq]
 have hheap:(sortWorldK encT 2 w q 0 n (sortTags l).toArray os).heap[q]? = some (.cells (putCells id 0 (flatK encT 2 (sortTags l).toArray) cs) t (0,0)):=by
  have hk2:q<(putRowK encT 2 (Sort.ahead w n) q 0 (sortTags l).toArray).heap.size:=by simpa [putRowK,putRow,mapBlock,Sort.ahead] using hql
  simp only [sortWorldK,Go.Sort.grow]
  rw [Array.getElem?_append_left hk2]
  have hh':(Sort.ahead w n).heap[q]? = some (.cells cs t (0,0)):=hh
  simp only [putRowK,putRow,mapBlock,Array.getElem?_modify,if_true,hh',Option.map_some,onCells]
 refine ⟨_,rfl,rfl,_,hgr,hheap,by simp [putCells],?_⟩
 have htake:(putCells id 0 (flatK encT 2 (sortTags l).toArray) cs).toList.take (l.length*TyTag.size)=(sortTags l).flatMap encT:=by
  rw [hsz2,← zng]
  apply List.ext_getElem?
  intro j
  rw [List.getElem?_take]
  have hfs:(flatK encT 2 (sortTags l).toArray).size=l.length*2:=by simp [za3]
  by_cases hj:j<l.length*2
  · rw [if_pos hj,Array.getElem?_toList,Array.getElem?_toList]
    have hjc:j<cs.size:=by omega
    have hjf:j<(flatK encT 2 (sortTags l).toArray).size:=by omega
    simp [putCells,hjc,hjf,hfs,hj]
  · rw [if_neg hj,List.getElem?_eq_none]
    simp only [Array.length_toList,hfs]
    omega
 rw [htake]
 exact zka fun x hx=>hlens x ((zaz l).mem_iff.1 hx)
end Go.AM
set_option linter.unusedVariables false
set_option linter.unusedSimpArgs false
namespace Go.AM
open Go.RowKit
section
variable {w:World} {G:GS} {B0:Nat} {w0:Wd} {h:H} {q b:Nat} {cs:List AV}
theorem St.look (s:St B0 w0 G h w) (hb:G.bx[q]? = some (some b)) (hq:h.bx[q]? = some cs) (hr:isRow cs=false) :
 ∃ vs t,B0≤b∧w.heap[b]? = some (.cells vs t (0,0))∧(G.bv q).v=0∧RepL w G vs.toList cs:=by
 obtain ⟨hB,ob,hh,hO⟩:=s.box q b cs hb hq
 obtain ⟨vs,t,rfl,h0,hl,ht⟩:=hO.list hr
 exact ⟨vs,t,hB,hh,h0,hl⟩
theorem St.cellI (s:St B0 w0 G h w) (hb:G.bx[q]? = some (some b)) (hq:h.bx[q]? = some cs) (hr:isRow cs=false) {i:Nat} {a:AV} (hi:cs[i]? = some a) :
 ∃ v,w.cell? ⟨b,i,none⟩=some v∧RepV w G v a∧w.frozen? ⟨b,i,none⟩=false:=by
 obtain ⟨vs,t,hB,hh,h0,hl⟩:=s.look hb hq hr
 have hlt:i<vs.toList.length:=by rw [hl.1]; exact (List.getElem?_eq_some_iff.1 hi).1
 refine ⟨vs.toList[i],?_,hl.2 i _ a (List.getElem?_eq_getElem hlt) hi,by simp [World.frozen?,hh]⟩
 rw [Lib.cell_of_heap hh,← Array.getElem?_toList,List.getElem?_eq_getElem hlt]
theorem RepL.setI {vs:List Value} (hl:RepL w G vs cs) {o:Nat} {v:Value} {a:AV} (hv:RepV w G v a):RepL w G (vs.set o v) (cs.set o a):=by
 refine ⟨by simp [hl.1],fun i u c hu hc => ?_⟩
 rw [List.getElem?_set] at hu hc
 by_cases ho:o=i
 · subst ho
   rw [if_pos rfl] at hu hc
   split at hu
   · split at hc
     · cases hu; cases hc; exact hv
     · cases hc
   · cases hu
 · rw [if_neg ho] at hu hc
   exact hl.2 i u c hu hc
theorem St.setI (s:St B0 w0 G h w) (hb:G.bx[q]? = some (some b)) (hq:h.bx[q]? = some cs) (hr:isRow cs=false) {o:Nat} {v:Value} {a:AV} (hv:RepV w G v a) (hn:noBld (cs.set o a)=true) (hr2:isRow (cs.set o a)=false) :
 Keep G.D w (w.setCell ⟨b,o,none⟩ v)∧St B0 w0 G { h with bx:=upd h.bx q (cs.set o a) } (w.setCell ⟨b,o,none⟩ v):=by
 obtain ⟨vs,t,hB,hh,h0,hl⟩:=s.look hb hq hr
 refine s.setBlk (nv:=vs.setIfInBounds o v) hb hh hB (by simp) ⟨rfl,rfl,rfl,by simp [World.setCell],fun k _ hk=>Below.heap_setCell _ _ _ _ (fun e=>hk (by simp [e]))⟩ (by simp [World.setCell,Array.getElem?_modify,hh]) (fun hk => ?_) (fun T hT=>(zfx hn hr2 T hT).elim)
 rw [Array.toList_setIfInBounds]
 have hx:Ext G.base G G:=Ext.refl (Base.le_refl _)
 exact .box _ _ hr2 h0 ((hl.mono hx hk).setI (hv.mono hx hk))
theorem St.endTry (s:St B0 w0 G h w) {n f:Nat} (hn:G.bx[q]? = some (some n)) (hf:G.bx[q+1]? = some (some f)) {x y z a c i:Int} (b0:h.bx[q]? = some [.int .i64 x]) (b1:h.bx[q+1]? = some [.int .i64 y,.int .i64 z]) :
 Keep G.D w (((w.setCell ⟨n,0,none⟩ (.int .i64 a)).setCell ⟨f,0,none⟩ (.int .i64 c)).setCell ⟨f,1,none⟩ (.int .i64 i)) ∧
 St B0 w0 G { h with bx:=upd (upd h.bx q [.int .i64 a]) (q+1) [.int .i64 c,.int .i64 i] } (((w.setCell ⟨n,0,none⟩ (.int .i64 a)).setCell ⟨f,0,none⟩ (.int .i64 c)).setCell ⟨f,1,none⟩ (.int .i64 i)):=by
 have hi:∀ (w:World) (k:Int),RepV w G (.int .i64 k) (.int .i64 k):=fun w k => .int _ _ (by simp)
 obtain ⟨k1,s1⟩:=s.setI (o:=0) hn b0 rfl (hi _ a) rfl rfl
 have b1':(upd h.bx q [.int .i64 a])[q+1]? = some [.int .i64 y,.int .i64 z]:=by rw [zk,List.getElem?_set_ne (by omega)]; exact b1
 obtain ⟨k2,s2⟩:=s1.setI (o:=0) hf b1' rfl (hi _ c) rfl rfl
 have hl:q+1<(upd h.bx q [.int .i64 a]).length:=(List.getElem?_eq_some_iff.1 b1').1
 have b1'':(upd (upd h.bx q [.int .i64 a]) (q+1) [.int .i64 c,.int .i64 z])[q+1]? = some [.int .i64 c,.int .i64 z]:=by rw [zk,List.getElem?_set,if_pos rfl,if_pos hl]
 obtain ⟨k3,s3⟩:=s2.setI (o:=1) hf b1'' rfl (hi _ i) rfl rfl
 refine ⟨(k1.trans (fun _ _ x=>x) k2).trans (fun _ _ x=>x) k3,?_⟩
 have e:upd (upd (upd h.bx q [.int .i64 a]) (q+1) [.int .i64 c,.int .i64 z]) (q+1) [.int .i64 c,.int .i64 i]=upd (upd h.bx q [.int .i64 a]) (q+1) [.int .i64 c,.int .i64 i]:=by
  simp only [zk,List.set_set]
 rw [← e]
 exact s3
theorem Ext.same {B:Base} {G G':GS} (x:Ext B G G') {r b:Nat} (hr:r<B.nb) (hb:G.bx[r]? = some (some b)) (hv:(G.bv r).v=0):G'.bx[r]? = some (some b)∧(G'.bv r).v=0:=by
 rcases x.bx r hr with ⟨h1,h2⟩ | ⟨h1,_⟩ | ⟨h1,_⟩
 · exact ⟨h1.trans hb,by rw [h2]; exact hv⟩
 · omega
 · rw [hb] at h1; cases h1
theorem Ext.keepB {G G':GS} (x:Ext G.base G G') {r b:Nat} (hb:G.bx[r]? = some (some b)) (hv:(G.bv r).v=0):G'.bx[r]? = some (some b)∧(G'.bv r).v=0:=x.same (List.getElem?_eq_some_iff.1 hb).1 hb hv
theorem zfp {X:Type} {k:AV→H→Option X} {r:X} (hk:tryEnd q h k=some r):∃ (τ:Ty) (l:List τ.den) (s:Cap) (a c i x y z:Int) (t:Bool),h.bx[q+3]? = some [.sl τ l s,.int .i64 a,.int .i64 c,.int .i64 i,.bool t]∧h.bx[q+2]? = some [.ref (q+3) 0] ∧
 h.bx[q+1]? = some [.int .i64 y,.int .i64 z]∧h.bx[q]? = some [.int .i64 x]∧k (.tup [.int .i64 a,.agg [.int .i64 c,.int .i64 i]]) { h with bx:=upd (upd (upd h.bx (q+3) [.sl τ l s,.int .i64 a,.int .i64 c,.int .i64 i,.bool false]) q [.int .i64 a]) (q+1) [.int .i64 c,.int .i64 i] }=some r:=by
 unfold tryEnd at hk
 simp only [zl] at hk
 split at hk
 · rename_i τ l s a c i t q' y z x h3 h2 h1 h0
   obtain ⟨hc,hk2⟩:=zb hk
   clear hk
   rw [nbeq] at hc
   subst hc
   exact ⟨τ,l,s,a,c,i,x,y,z,t,h3,h2,h1,h0,hk2⟩
 · cases hk
theorem zpa {bx:List (List AV)} {A B C:List AV} (hq:q+3<bx.length):upd (upd (upd bx (q+3) A) q B) (q+1) C=upd (upd (upd (upd (upd bx q B) (q+1) C) (q+3) A) q B) (q+1) C:=by
 simp only [zk]
 apply List.ext_getElem?
 intro j
 simp only [List.getElem?_set,List.length_set]
 by_cases h1:q+1=j
 · simp only [if_pos h1]
 · rw [if_neg h1,if_neg h1]
   by_cases h2:q=j
   · simp only [if_pos h2]
   · rw [if_neg h2,if_neg h2]
     by_cases h3:q+3=j
     · simp only [if_pos h3]
     · simp only [if_neg h3,if_neg h1,if_neg h2]
theorem zmd (w:World) (G:GS) (a c i:Int):RepV w G (.tuple #[.int .i64 a,.agg #[.int .i64 c,.int .i64 i]]) (.tup [.int .i64 a,.agg [.int .i64 c,.int .i64 i]]):=by
 have hi:∀ k:Int,RepV w G (.int .i64 k) (.int .i64 k):=fun k => .int _ _ (by simp)
 refine .tup _ _ rfl fun j v d hv hd => ?_
 match j,hv,hd with
 | 0,hv,hd=>cases hv; cases hd; exact hi a
 | 1,hv,hd =>
  cases hv; cases hd
  refine .agg _ _ rfl fun j v d hv hd => ?_
  match j,hv,hd with
  | 0,hv,hd=>cases hv; cases hd; exact hi c
  | 1,hv,hd=>cases hv; cases hd; exact hi i
  | j+2,hv,hd=>cases hd
 | j+2,hv,hd=>cases hd
end
end Go.AM
set_option linter.unusedVariables false
set_option linter.unusedSimpArgs false
namespace Go.AM
theorem ze {x:Int} (h : -9223372036854775808≤x∧x≤9223372036854775807):IntKind.wrap .i64 x=x:=IntWalk.i64_in x h
theorem zt {α:Type} (l:List α) (k:Nat):idx l (k:Int)=l[k]?:=by simp [idx]
theorem za7 {α:Type} {l:List α} {k:Nat} (h:k<l.length):idx l (k:Int)=some l[k]:=by rw [zt]; simp [h]
theorem zp {α:Type} (l:List α) (a b:Nat) (h:a≤b) (hb:b≤l.length):sub l (a:Int) (b:Int)=some ((l.take b).drop a):=by
 simp [sub,h,hb]
theorem zx {α:Type} {l r:List α} {x:α} {k:Nat} (h:l.drop k=x::r):k<l.length∧l[k]? = some x∧l.drop (k+1)=r:=by
 have h1:k<l.length:=by
  have:=congrArg List.length h
  simp at this
  omega
 refine ⟨h1,?_,?_⟩
 · have:=congrArg (·[0]?) h
   simpa using this
 · rw [← List.drop_drop,h]
   rfl
theorem zz {α:Type} {l:List α} {k:Nat} (h:l.drop k=[]):l.length≤k:=by simpa using h
theorem bdec {α:Type} {p:Prop} [Decidable p] {a b:α}:(bif decide p then a else b)=if p then a else b:=by by_cases h:p<;>simp [h]
theorem zf {α:Type} {p:Prop} [Decidable p] {a b:α} (h:p):(bif decide p then a else b)=a:=by simp [h]
theorem zg {α:Type} {p:Prop} [Decidable p] {a b:α} (h:¬ p):(bif decide p then a else b)=b:=by simp [h]
theorem za {α β:Type} (a:α) (f:α→Option β):(some a).bind f=f a:=rfl
theorem zim:strMax=4611686018427387904:=rfl
theorem zi {k:Nat} (h:k<4611686018427387904):IntKind.wrap .i64 ((k:Int)+1)=((k+1:Nat):Int):=by rw [ze (by omega)]; omega
end Go.AM
set_option linter.unusedVariables false
namespace Go.AM
def datVals:Nat→DataW Unit→List Value
 | 0,_=>[]
 | n+1,.lit (.int k z)=>[.int k z]
 | n+1,.lit (.string bs)=>[.string ⟨bs.toArray⟩]
 | n+1,.agg l=>l.flatMap (datVals n)
 | n+1,.ptr d=>datVals n d
 | n+1,.iface _ d=>datVals n d
 | _,_=>[]
def putCells (h:Array Obj) (g:Nat) (cs:Array Value):Array Obj:=h.modify g fun
 | .cells _ t frozen => .cells cs t frozen
 | o=>o
def layTab (g:Nat) (d:DataW Unit) (h:Array Obj):Array Obj:=putCells h g (datVals 4 d).toArray
def layErr (g tp te:Nat) (d:DataW Unit) (h:Array Obj):Array Obj:=putCells (h.push (.cells (datVals 4 d).toArray te (0,0))) g #[.iface tp (.pointer (some ⟨h.size,0,none⟩))]
noncomputable def laidOf (P:Program) (os:Os) (fs:List (Array Obj→Array Obj)):World:=
 { World.holding P os ⟨#[],#[],[]⟩ with heap:=fs.foldl (fun h f=>f h) (World.holding P os ⟨#[],#[],[]⟩).heap }
end Go.AM
