/- Part 3 of a proof by the abstract machine. -/
import Derived.Test.YtodkiaiclgdifaaGreatDoorQ2
import Derived.Scope
import Derived.Carry
import Derived.SizedLaws
import Derived.OpenShut
import Derived.ProofKit
import Derived.Lib.Join
import Derived.Lib.SlFresh
import Derived.Lib.SlParts
import Derived.Lib.Bytealg
import Derived.Lib.AtoiAll
import Derived.Lib.LaidTab
import Derived.Lib.Itoa
import Derived.Lib.ItoaLen
import Derived.Lib.Repeat
import Derived.Lib.AppendIntMem
import Derived.Sort.Grow
import Derived.Lib.TrimByte
import Derived.Lib.Strings
import Derived.Lib.ConvBytes
import Derived.Lib.AtoiAllMem
import Derived.MapKept
import Derived.Lib.SplitLaws
import Derived.Lib.IndexBytes
import Derived.Lib.LaidU8
import Derived.Deep.DeepHandedRow
import Derived.Deep.DeepWitnessRowRef
import Derived.KernelRfl
import Derived.Shelf.SlSortCmp.WholeK
import Derived.Lib.Builder
import Derived.IntWalk
import Derived.Lib.LaidIn
open Option.some renaming injEq→adK,inj→adP
open Bool renaming and_eq_true→adL,or_eq_true→aem,not_eq_true'→aeu
open List renaming getElem?_eq_some_iff→adO,mem_cons→adR,getElem?_eq_getElem→adU,getElem?_append_right→adW,getElem?_append_left→adX,eq_nil_of_length_eq_zero→ad1,mem_append→ad3,getElem?_set→ad9,length_cons→aeb,pairwise_cons→aec,getElem?_set_ne→aeh,mem_of_getElem?→aei,cons_append→aeq,getElem?_cons_zero→aer,map_cons→aes,all_eq_true→aey,mem_filter→aeB,append_nil→aeC,getElem?_take_of_lt→aeI,range'→aeM,isEmpty_iff→aeO,getElem?_eq_none→aeS,mem_cons_of_mem→aeX,drop_drop→ae7,ext_getElem?→afh,size_toArray→afi,mem_map→afm,nil_append→afp
open Array renaming getElem?_eq_some_iff→adS,getD_eq_getD_getElem?→adZ,getElem?_eq_getElem→aef,length_toList→aek,getElem?_toList→aen,getElem?_append_left→aep,getElem?_modify→aeV,eq_empty_of_size_eq_zero→aeW,replicate→aeY,ext'→afu
open Nat renaming beq→adT,le_refl→ael,testBit→aet,zero_add→aex,blt→aeQ,ble→aeR,testBit_or→ae8,zero_le→afr
open Go.Op renaming bytesLess→adV,eqFields→aeN
open Prod.mk renaming injEq→adY
open Go.Result renaming andThen_ok→ad0
open Go.Lib renaming indexByte→ad4,join→aeL,trimRightB→afa,bytesWorld→afb,atoiAll→afd,trimLeftB→afg
open Go.World renaming putObj_heap_other→ad5,alloc_heap_new→aeg,grownBy_alloc→ae6,cell?→afq
open Go.Region renaming wanted→ad6,binds→aeJ
open Int renaming eq_ofNat_of_zero_le→ad7,toNat_natCast→aew,ofNat_eq_natCast→ae2
open Go.Sem renaming run_bind→ad8,run_pure→aeK
open Go.RowKit.Below renaming refl→aea
open Go.Value renaming string→aej,okWide→ae1,func→afj,cells→afs
open Go.DataW renaming weightsEach→aev,TrodAll→aez,weightsAll→aeP,trod→ae0,weights→afe
open Go.Instr renaming findKey→aeA,lookup→afo,checkKey→aft
open Go.MapKept renaming run_getObj_map→aeD
open Go.Fence renaming wide→aeZ
open Go.Sort renaming grow→ae3,ahead→ae5
open Ne renaming symm→afk
open Go.Deferred renaming ofValue→afl
open Option renaming getD_some→afn
set_option linter.unusedVariables false
set_option linter.unusedSimpArgs false
namespace Go.AM
open Go.RowKit
section
variable {P:Program} {w:World} {G:GS}
theorem L1{G1:GS}(hD:G1.D=G.D)(hb:G1.bx=G.bx)(ht:G1.tk=G.tk)(hl:G1.lp=G.lp)(hv:G1.bv=G.bv){v:Value}{a:AV}(h:af w G v a):af w G1 v a:=by
 induction h with
 |any v=>exact .any v
 |bool b=>exact .bool b
 |int k n h=>exact .int k n h
 |str s l h hl=>exact .str s l h hl
 |sl τ l c v h hc =>
  rw[←hD]at h;cases c with
  |full=>exact .sl _ _ _ _ h hc
  |eY=>exact .sl _ _ _ _ h trivial
  |fresh=>exact .sl _ _ _ _ h trivial
  |own t =>obtain⟨o,h1,h2⟩:=hc;exact .sl _ _ _ _ h ⟨o,by rw[ht];exact h1,h2⟩
 |fe=>exact .fe
 |agg vs cs hl _ ih=>exact .agg vs _ hl ih
 |cr vs cs hl _ ih=>exact .cr vs _ hl ih
 |fX=>exact .fX
 |ref r off b h h0=>exact .ref r off b (by rw[hb];exact h) (by rw[hv];exact h0)
 |ms r v n τ x h0 hs h=>exact .ms r v n τ x h0 hs (by rw[hb,hv];exact h)
 |ep r v i off τ x h0 hs h=>exact .ep r v i off τ x h0 hs (by rw[hb,hv];exact h)
 |iM b o us cs hl hm _ ih=>exact .iM b o us _ hl (by rw[hD];exact hm) ih
 |gp n b o c us cs h0 hc hl hm _ ih=>exact .gp n b o c us _ h0 hc hl (by rw[hD];exact hm) ih
 |ea r T b v h h0 hp=>exact .ea r T b v (by rw[hb];exact h) (by rw[hv];exact h0) hp
 |gq r b h h0=>exact .gq r b (by rw[hb];exact h) (by rw[hv];exact h0)
 |bl=>exact .bl
 |fn f x y a b hx _ hy _ i1 i2=>exact .fn f x y _ _ hx i1 hy i2
 |yield j p h=>exact .yield j p (by rw[hl];exact h)
 |jI=>exact .jI
 |ky t x=>exact .ky t x
def wW(d:Nat):Deferred:={ target:=.collected d,args:=#[] }
def GS.nd(G:GS):GS:={ G with df:=[] }
theorem ztz{v:Value}{a:AV}(h:af w G v a):af w G.nd v a:=L1 (G:=G) (G1:=G.nd) rfl rfl rfl rfl rfl h
theorem zkv{v:Value}{a:AV}(h:af w G.nd v a):af w G v a:=L1 (G:=G.nd) (G1:=G) rfl rfl rfl rfl rfl h
theorem Ext.nd{B:cF}{G G':GS}(h:Ext B G G'):Ext B G.nd G'.nd:=⟨h.D,h.bx,h.tk,h.lp,rfl⟩
theorem z0u{N:Nat}{tmps:Array Value}{e:Env}(h:eN w G N tmps e):eN w G.nd N tmps e:=⟨h.size,fun t=>ztz (h.rep t)⟩
theorem zrv{N:Nat}{tmps:Array Value}{e:Env}(h:eN w G.nd N tmps e):eN w G N tmps e:=⟨h.size,fun t=>zkv (h.rep t)⟩
theorem VW{w w':World}{G G':GS}{N:Nat}{tmps:Array Value}{e:Env}(h:eN w G N tmps e)(hx:Ext G.base G.nd G'.nd)(hk:bg G.D w w'):eN w' G' N tmps e:=zrv ((z0u h).mono (G:=G.nd) (G':=G'.nd) hx hk)
structure Rel (B0:Nat) (w0:Wd) (N:Nat) (G0:GS) (wb:World) (ρ:Option Nat) (a:Act) (w:World) (e:Env) (h:H) (G:GS):Prop where
 env:eN w G N a.tmps e
 st:St B0 w0 G h w
 ext:Ext G0.base G0.nd G.nd
 eJ:bg G0.D wb w
 wC:∃ds,a.defers=ds.map wW∧G.df=ds++G0.df∧(ρ≠none→ds=[])
structure NK {X:Type} (B0:Nat) (w0:Wd) (N:Nat) (G0:GS) (wb:World) (ρ:Option Nat) (ks:Ks X) (r:X) (Q:Exit→Act→World→Prop):Prop where
 iw:∀a w e h G,Rel B0 w0 N G0 wb ρ a w e h G→ks.iw e h=some r→Q .normal a w
 ex:∀i a w e h G,i<mJ→Rel B0 w0 N G0 wb ρ a w e h G→ks.ex i e h=some r→Q (.exit i) a w
 ret:∀a w e h G,Rel B0 w0 N G0 wb ρ a w e h G→ks.ret e h=some r→Q .ret a w
 BQ:∀T q b a w e h G,q<mJ→Rel B0 w0 N G0 wb ρ a w e h G→(G0.bx[q]? = some (some b)∨G0.bx[q]? = some none)→ks.ex (mJ*(T+1)+q) e h=some r→Q (.panic (sM T (.pointer (some ⟨b,0,none⟩)))) a w
section
variable {B0:Nat} {w0:Wd} {N:Nat} {G0:GS} {wb:World} {ρ:Option Nat}
theorem Rel.base{a:Act}{w:World}{e:Env}{h:H}{G:GS}(s:Rel B0 w0 N G0 wb ρ a w e h G):G0.base.le G.base:=jG (G0:=G0.nd) (G:=G.nd) s.ext
theorem Rel.step{a:Act}{w w':World}{e:Env}{h h':H}{G G':GS}(s:Rel B0 w0 N G0 wb ρ a w e h G)(hx:Ext G.base G G')(hk:bg G.D w w')(st:St B0 w0 G' h' w'):Rel B0 w0 N G0 wb ρ a w' e h' G':=⟨s.env.mono hx hk,st,s.ext.trans (hx.nd.mono s.base),s.eJ.trans s.ext.D hk,by obtain⟨ds,h1,h2,h3⟩:=s.wC;exact⟨ds,h1,by rw[hx.df];exact h2,h3⟩⟩
theorem Rel.put{a:Act}{w:World}{e e':Env}{h:H}{G:GS}(s:Rel B0 w0 N G0 wb ρ a w e h G){d:Option Nat}{v:Value}{av:AV}(hv:af w G v av){X:Type}{k:Env→Option X}{r:X}(hk:put N e d av k=some r) :
 ∃e',Rel B0 w0 N G0 wb ρ (a.put d v) w e' h G∧k e'=some r:=by
 cases d with
 |none=>exact⟨e,s,hk⟩
 |some d =>obtain⟨hd,hk⟩:=zf hk;simp only[eV]at hd;exact⟨_,⟨s.env.put hd hv,s.st,s.ext,s.eJ,s.wC⟩,hk⟩
theorem Rel.fit{a:Act}{w:World}{e:Env}{h:H}{G:GS}(s:Rel B0 w0 N G0 wb ρ a w e h G){sh:Shape}{Y:Ys}{x:sh.den}(hf:sh.fit G0.base Y e h=some x) :
 ∃G',Rel B0 w0 N G0 wb ρ a w (sh.e x) (sh.h x) G'∧sh.y x=Y:=by
 unfold Shape.fit at hf;split at hf
 ·rename_i e1 h1 hn;have hm:sh.m≤h.bx.length:=by unfold zS at hn;have:=(zf hn).1;simp only[adL,jZ]at this;omega
  obtain⟨G',st,he,hx⟩:=zpb s.st s.env.size (zqi s.env sh.env) (by rw[zqj,tC];simp;omega) (fun r cs ob b hr dy hb hh=>by
   obtain⟨ds,oB,F9⟩:=Vz _ _ _ _ dy;rw[tC,aeI hr]at oB;obtain⟨_,U2,kA,fG⟩:=s.st.box r b ds hb oB;rw[hh]at kA;obtain rfl:=adP kA;rcases F9 with rfl|⟨lM,sv,rfl⟩
   ·exact fG
   ·obtain⟨vs,t,rfl,qF,oI,jd⟩:=fG.list lM;have:=GC sv ds _ oI;exact .cells _ _ _ (.box _ _ this.oZ qF this) fun T hT=>jd T (z3t hT)) (fun r cs hr dy hb=>by
   obtain⟨ds,oB,F9⟩:=Vz _ _ _ _ dy;rw[tC,aeI hr]at oB;have hN:=s.st.fl r ds hb oB;rcases F9 with rfl|⟨lM,sv,rfl⟩
   ·exact hN
   ·rcases hN with⟨v,τ,rfl,_⟩ |⟨rfl,_⟩
    ·cases lM
    ·cases lM) hn
  obtain⟨d1,d2,d3⟩:=Shape.tR hf;refine⟨G',⟨by rw[d1];exact he,by rw[d2];exact st,s.ext.trans hx.nd,s.eJ,?_⟩,d3⟩;obtain⟨ds,h1,h2,h3⟩:=s.wC;exact⟨ds,h1,by rw[hx.df];exact h2,h3⟩
 ·cases hf
theorem nE.go{X:Type}{cx:Cx X}{Y:Ys}{G G':GS}{w w':World}(h:nE cx Y G w)(hx:Ext G.base G.nd G'.nd)(hk:bg G.D w w'):nE cx Y G' w':=fun j hd hl=>by obtain⟨p,h1,N,lv,ps,aS,b,h2,h3,h4,h5,h6⟩:=h j hd hl;exact⟨p,(hx.lp j (adO.1 h1).1).trans h1,N,lv,ps,aS,b,h2,h3,h4,h5,VW h6 hx hk⟩
theorem VX{X:Type}{cx:Cx X}{O:Open X}{Y:Ys}(hT:fC P cx.tab)(hC:(∀g iY,cx.C g=some iY→mc P (Below B0 w0.w) g iY)∧∀g p,cx.pr g=some p→jg P (Below B0 w0.w) g p)(hO:iU P B0 w0 cx O)(hY:nE cx Y G0 wb){a:Act}{w:World}{e:Env}{h:H}{G:GS}(s:Rel B0 w0 N G0 wb ρ a w e h G){o:Oper}
 {k:AV→H→Option X} {r:X} (hk:mK cx O Y o e h k=some r) {next:Act→World→Prop} {Q:Exit→Act→World→Prop} (hn:∀v w',Ends B0 w0 G w k r v w'→next (a.put o.dst v) w'):o.wpIn (FW ρ) 0 P a w next Q:=by
 refine⟨fun f _=>trivial,?_⟩;have L6:∀c,o.op ≠ .defer c:=fun c hc=>by unfold mK at hk;rw[zpa hc,cond_false]at hk;unfold fK at hk;rw[hc]at hk;simp at hk
 rw[Oper.semAt_eq _ _ _ L6];by_cases Ap:∃c f,o.op = .call c∧c.callee = .value f
 ·obtain⟨c,f,hc,hf⟩:=Ap;have ik:sx cx O Y (ev e f) (lY cx e c.argTypes.toList c.args.toList) h k=some r:=by unfold mK at hk;rw[zrp hc hf,cond_false]at hk;unfold fK at hk;rw[hc]at hk;simp only[hf]at hk;exact hk
  have gv:ak w G (c.args.map a.eval).toList (lY cx e c.argTypes.toList c.args.toList):=by rw[Array.toList_map];exact Gm cx s.env _ _
  unfold sx at ik;cases xF:uM cx (ev e f) (lY cx e c.argTypes.toList c.args.toList)with
  |false =>rw[xF,cond_false]at ik;exact zhg hC hO s.st (hY.go s.ext s.eJ) hc hf (s.env.ev f) gv ik hn
  |true =>rw[xF,cond_true]at ik;obtain⟨aS,G',h',e1,s1,r1,_,kg⟩:=LK _ _ _ _ _ _ s.st gv ik;refine zhg hC hO s1 ((hY.go s.ext s.eJ).go e1.nd (bg.refl _ _)) hc hf ((s.env.ev f).mono e1 (bg.refl _ _)) r1 kg fun v w' hE=>hn v w' ?_;obtain⟨av,G2,h2,hx,gC,st,hv,xC⟩:=hE;exact⟨av,G2,h2,e1.trans (hx.mono (jG e1)),fun b o hd=>gC b o (e1.D b o hd),st,hv,xC⟩
 ·obtain⟨v,w',kH,hE⟩:=zww hT s.st s.env o (fun c f hc hf=>Ap ⟨c,f,hc,hf⟩) hk;rcases kH with kH|⟨kH,rfl⟩
  ·rw[kH,Oper.uponIn_value];exact hn v w' hE
  ·rw[kH,Oper.uponIn_skip];exact hn _ w' hE
theorem zga{all:Array Oper}{j d:Nat}(hd:qx all.toList j=some d){b:Bool}{tmps:Array Value}{e:Env}(he:eN w G N tmps e)(hb:get e d = .bool b):yielded all tmps j=some b∧d<N∧tmps.getD d undef = .bool b:=by
 have h1:=he.rep d;rw[hb]at h1;have h1:=n5 h1;have Aq:d<tmps.size:=by
  rcases Nat.lt_or_ge d tmps.size with hl|hg
  ·exact hl
  ·exfalso;have:tmps.getD d undef=undef:=by simp[Array.getD,Nat.not_lt.2 hg]
   rw[this]at h1;cases h1
 have VY:tmps[d]? = some (.bool b):=by
  rw[aef Aq];have:tmps.getD d undef=tmps[d]:=by simp[Array.getD,Aq]
  rw[←this,h1]
 refine⟨?_,by rw[←he.size];exact Aq,h1⟩;unfold qx at hd;rw[zo]at hd;split at hd
 ·rename_i o ho;have VZ:all[j]? = some o:=by simpa using ho
  simp only[yielded,VZ,Option.bind_some,hd,VY]
 ·cases hd
theorem zkw{all:Array Oper}{j d:Nat}(hd:qx all.toList j=some d){vs:List AV}{tmps:Array Value}{e:Env}(he:eN w G N tmps e)(hb:get e d = .cr vs):yielded all tmps j=none:=by
 have h1:=he.rep d;rw[hb]at h1;unfold qx at hd;rw[zo]at hd;split at hd
 ·rename_i o ho;have VZ:all[j]? = some o:=by simpa using ho
  simp only[yielded,VZ,Option.bind_some,hd];cases ht:tmps[d]? with
  |none=>rfl
  |some v =>
   have hv:tmps.getD d undef=v:=by rw[adZ,ht];rfl
   rw[hv]at h1;cases h1;rfl
 ·cases hd
theorem Rel.refine{a:Act}{w:World}{e:Env}{h:H}{G:GS}(s:Rel B0 w0 N G0 wb ρ a w e h G){d:Nat}{b:Bool}(hd:d<N)(hv:a.tmps.getD d undef = .bool b):Rel B0 w0 N G0 wb ρ a w ((d,.bool b)::e) h G:=by
 refine⟨⟨s.env.size,fun t => ?_⟩,s.st,s.ext,s.eJ,s.wC⟩;rw[Lw];split
 ·rename_i h;subst h;rw[hv];exact .bool b
 ·exact s.env.rep t
theorem zrw {X:Type} {cx:Cx X} (hC:(∀g iY,cx.C g=some iY→mc P (Below B0 w0.w) g iY)∧∀g p,cx.pr g=some p→jg P (Below B0 w0.w) g p) {a:Act} {w:World} {e:Env} {h:H} {G:GS} (s:Rel B0 w0 N G0 wb ρ a w e h G) {o:Oper} {x:AV} {T:Nat} (hm:zW cx o e=some (x,T))
 {pn:Nat→Env→H→Option X} {kk:Option X} {r:X} (hk:Cv x T h (fun i=>pn i e h) kk=some r) {next:Act→World→Prop} {Q:Exit→Act→World→Prop}
 (hp:∀q p w e h G,q<mJ→Rel B0 w0 N G0 wb ρ a w e h G→af w G p (.ref q 0)→pn (mJ*(T+1)+q) e h=some r→Q (.panic (sM T p)) a w) (hn:∀{w':World},Rel B0 w0 N G0 wb ρ a w' e h G→kk=some r→next (a.put o.dst (.tuple #[])) w'):o.wpIn (FW ρ) 0 P a w next Q:=by
 have CW:(FW ρ).depth.isSome=true→1≤0:=by intro h;cases h
 unfold zW at hm;split at hm
 ·rename_i c hc;split at hm
  ·rename_i f y hf gv;split at hm
   ·rename_i g hg;split at hm
    ·rename_i T' GN;obtain⟨rfl,rfl⟩:=Prod.mk.inj (adP hm);refine⟨fun f _=>trivial,?_⟩;rw[Oper.semAt_eq _ _ _ (fun c' oC=>by rw[hc]at oC;cases oC)];unfold Cv at hk;split at hk
     ·rename_i q hy;split at hk
      ·rename_i G7 G8 G9 b1 cc ii tt jf;rw[zo]at jf;obtain⟨hqP,hk⟩:=zf hk;have L_:=s.env.ev y;rw[hy]at L_;have xI:=s.env.ev f;rw[hg]at xI;have V_:a.eval f = .func (.func g) #[] #[]:=by
        generalize a.eval f=fv at xI;cases xI with
        |fn _ x y _ _ hx h1 hy h2 =>have e1:x=#[]:=aeW (by simpa using hx);have e2:y=#[]:=aeW (by simpa using hy);rw[e1,e2]
       have Gy:c.args.map a.eval=#[a.eval y]:=afu (by simp[gv]);have ew:(execOp a.eval o).run P w=(callFunc g #[a.eval y]).run P w:=by
        have h1:(execOp a.eval o).run P w=(do let d ←afl (a.eval f) (c.args.map a.eval);invoke d.target d.args:Sem Next).run P w:=by simp only[execOp,hc,resolve,hf]
        rw[h1,V_,Gy];simp[afl,invoke]
       rw[ew];generalize V':a.eval y=pv at L_;have adM:=L_;cases L_ with
       | ref _ _ b hb h0 =>
        obtain⟨hB,ob,hh,hR⟩:=s.st.box q b _ hb jf;obtain⟨vs,t,rfl,_,hL,_⟩:=hR.list rfl;have adN:=hC.2 g _ GN;obtain⟨v0,v1,iz⟩:∃v0 v1,vs.toList=[v0,v1,.int .i64 cc,.int .i64 ii,.bool tt]:=by
         match CC:vs.toList,hL with
         |[u0,u1,u2,u3,u4],hL =>have g2:=hL.2 2 u2 _ rfl rfl;have g3:=hL.2 3 u3 _ rfl rfl;have g4:=hL.2 4 u4 _ rfl rfl;obtain⟨e2,_⟩:=zj g2;obtain⟨e3,_⟩:=zj g3;have e4:=n5 g4;exact⟨u0,u1,by rw[e2,e3,e4]⟩
         |[],hL=>have:=hL.1;simp at this
         |[_],hL=>have:=hL.1;simp at this
         |[_,_],hL=>have:=hL.1;simp at this
         |[_,_,_],hL=>have:=hL.1;simp at this
         |[_,_,_,_],hL=>have:=hL.1;simp at this
         |_::_::_::_::_::_::_,hL=>have:=hL.1;simp at this
        obtain⟨h1,h2⟩:=adN w b vs t v0 v1 cc ii tt s.st.below hh iz;rw[h1,Oper.uponIn_enter];refine⟨CW,CallsIn.mono (F:=FW ρ) (n:=0) h2 ?_⟩
        rintro e' w' ⟨rfl,rfl⟩
        cases G_:(tt && !(cc==0&&ii==0))with
        |true =>rw[G_,cond_true]at hk;rw[if_pos rfl];exact hp q _ _ _ _ _ (eV.1 hqP) s adM hk
        |false =>rw[G_,cond_false]at hk;rw[if_neg (by decide)];exact hn s hk
      ·cases hk
     ·cases hk
    ·cases hm
   ·cases hm
  ·cases hm
 ·cases hm
theorem ziv{X : Type}{cx:Cx X}{O:Open X}{Y:Ys}(hT:fC P cx.tab)(hC:(∀g iY,cx.C g=some iY→mc P (Below B0 w0.w) g iY)∧∀g p,cx.pr g=some p→jg P (Below B0 w0.w) g p)(hO:iU P B0 w0 cx O)(hY:nE cx Y G0 wb)(all:Array Oper){k:Env→H→Option X}{pn:Nat→Env→H→Option X}{r:X}{Q:Exit→Act→World→Prop}
 (hq:∀a w e h G,Rel B0 w0 N G0 wb ρ a w e h G→k e h=some r→Q .normal a w)
 (hp:∀T q p a w e h G,q<mJ→Rel B0 w0 N G0 wb ρ a w e h G→af w G p (.ref q 0)→pn (mJ*(T+1)+q) e h=some r→Q (.panic (sM T p)) a w):∀(os:List Oper)(i:Nat),os=all.toList.drop i→∀(a:Act)(w:World)(e:Env)(h:H)(G:GS),Rel B0 w0 N G0 wb ρ a w e h G→pS cx O N Y all.toList pn os e h k=some r →
  wpOpsIn (FW ρ) 0 P all Q (aeM i os.length) a w
 |[],i,_,a,w,e,h,G,s,hk=>by simp only[pS]at hk;exact hq a w e h G s hk
 | o :: os,i,hos,a,w,e,h,G,s,hk=>by
  have hi:all[i]? = some o:=by
   have:(all.toList.drop i)[0]? = some o:=by rw[←hos];rfl
   simpa using this
  have adQ:os=all.toList.drop (i+1):=by rw[←ae7,←hos];rfl
  rw[aeb,List.range'_succ];simp only[wpOpsIn,hi];have ih:=fun a w e h G s hk=>ziv hT hC hO hY all hq hp os (i+1) adQ a w e h G s hk;have go:∀e,Rel B0 w0 N G0 wb ρ a w e h G→(mK cx O Y o e h fun v h=>put N e o.dst v fun e=>pS cx O N Y all.toList pn os e h k)=some r→o.wpIn (FW ρ) 0 P a w (wpOpsIn (FW ρ) 0 P all Q (aeM (i+1) os.length)) Q:=by intro e s hk;refine VX hT hC hO hY s hk fun v w' hE => ?_;obtain⟨av,G',h',hx,gC,st,hv,ik⟩:=hE;obtain⟨e',s',nk⟩:=(s.step hx gC st).put (e':=e) hv ik;exact ih _ _ _ _ _ s' nk
  simp only[pS]at hk;split at hk
  ·rename_i hg;rw[if_pos (by simp[ad6,hg])];split at hk
   ·rename_i x T hmo;exact zrw hC s hmo hk (fun q p w e h G=>hp T q p a w e h G) (fun s' ik=>by obtain⟨e',s'',nk⟩:=s'.put (e':=e) (v:=.tuple #[]) (.cr #[] [] rfl (fun i v c h=>by simp at h)) ik;exact ih _ _ _ _ _ s'' nk)
   ·exact go e s hk
  ·rename_i j rL hg;split at hk
   ·rename_i d hd;split at hk
    ·rename_i b hb;obtain⟨hy,Aq,hv⟩:=zga hd s.env hb
     have run:b=rL→(mK cx O Y o ((d,.bool rL)::e) h fun v h=>put N ((d,.bool rL)::e) o.dst v fun e=>pS cx O N Y all.toList pn os e h k)=some r →
      (if ad6 o (yielded all a.tmps)=true then o.wpIn (FW ρ) 0 P a w (wpOpsIn (FW ρ) 0 P all Q (aeM (i+1) os.length)) Q
       else(∀f,o.about P w a.eval=some f→(FW ρ).fn f)∧wpOpsIn (FW ρ) 0 P all Q (aeM (i+1) os.length) (a.put o.dst undef) w):=by
      intro tQ hk;subst tQ;rw[if_pos (by simp[ad6,hg,hy])];exact go _ (s.refine Aq hv) hk
     have pass:b = !rL→(put N ((d,.bool (!rL))::e) o.dst (.cr []) fun e=>pS cx O N Y all.toList pn os e h k)=some r →
      (if ad6 o (yielded all a.tmps)=true then o.wpIn (FW ρ) 0 P a w (wpOpsIn (FW ρ) 0 P all Q (aeM (i+1) os.length)) Q
       else(∀f,o.about P w a.eval=some f→(FW ρ).fn f)∧wpOpsIn (FW ρ) 0 P all Q (aeM (i+1) os.length) (a.put o.dst undef) w):=by
      intro tQ hk;rw[if_neg (by rw[ad6,hg];simp only[hy,tQ];cases rL<;>simp)];refine⟨fun _ _=>trivial,?_⟩;obtain⟨e',s',nk⟩:=(s.refine Aq (b:=!rL) (by rw[hv,tQ])).put (e':=e) (v:=undef) (sD _ _) hk;exact ih _ _ _ _ _ s' nk
     cases rL<;>cases b<;>simp only[cond_true,cond_false]at hk
     ·exact run rfl hk
     ·exact pass rfl hk
     ·exact pass rfl hk
     ·exact run rfl hk
    ·rename_i vs hb;have hy:=zkw hd s.env hb;rw[if_neg (by rw[ad6,hg];simp[hy])];refine⟨fun _ _=>trivial,?_⟩;obtain⟨e',s',nk⟩:=s.put (e':=e) (v:=undef) (sD _ _) hk;exact ih _ _ _ _ _ s' nk
    ·cases hk
   ·cases hk
end
end
end Go.AM
namespace Go.AM
open Go.RowKit
section
variable {w:World} {G:GS} {B0:Nat} {w0:Wd} {h:H}
theorem zt0{G1:GS}(hD:G1.D=G.D)(hb:G1.bx=G.bx)(ht:G1.tk=G.tk)(hl:G1.lp=G.lp)(ix:G1.bv=G.bv){vs:List Value}{cs:List AV}(h:ak w G vs cs):ak w G1 vs cs:=⟨h.1,fun i v c hv hc=>L1 hD hb ht hl ix (h.2 i v c hv hc)⟩
theorem zt1{G1:GS}(hD:G1.D=G.D)(hb:G1.bx=G.bx)(ht:G1.tk=G.tk)(hl:G1.lp=G.lp)(ix:G1.bv=G.bv){r:Nat}{vs:List Value}{cs:List AV}(h:iS w G r vs cs):iS w G1 r vs cs:=by
 cases h with
 |box _ h hv ni=>exact .box _ _ h (by rw[ix];exact hv) (zt0 hD hb ht hl ix ni)
 |row v τ l cap h0 hv hz hc hm hs ni h1=>exact .row _ v τ l cap h0 (by rw[ix];exact hv) hz hc hm hs (by rw[hD];exact ni) h1
theorem zkx{G1:GS}(hD:G1.D=G.D)(hb:G1.bx=G.bx)(ht:G1.tk=G.tk)(hl:G1.lp=G.lp)(ix:G1.bv=G.bv){r:Nat}{ob:Obj}{cs:List AV}(h:jB w G r ob cs):jB w G1 r ob cs:=by
 cases h with
 |cells vs t _ h kZ=>exact .cells vs t _ (zt1 hD hb ht hl ix h) kZ
 |mp es c l hv h=>exact .mp es c l (by rw[ix];exact hv) h
 |fm l c hv=>exact .fm l c (by rw[ix];exact hv)
theorem St.Wa(s:St B0 w0 G h w){df:List Nat}(h1:∀d∈df,B0≤d∧w.heap[d]? = some (.deferred (some [])))(h2:df.Nodup):St B0 w0 { G with df:=df } h w:=
 { s with
   box:=fun r b cs hb hc=>by obtain⟨hB,ob,hh,hr⟩:=s.box r b cs hb hc;exact⟨hB,ob,hh,zkx (G:=G) (G1:={ G with df:=df }) rfl rfl rfl rfl rfl hr⟩
   tok:=fun t g ht=>s.tok t g ht
   gu:=h1
   ig:=h2 }
theorem St.Wb(s:St B0 w0 G h w):St B0 w0 { G with df:=w.heap.size::G.df } h (w.alloc (.deferred (some [])))∧bg G.D w (w.alloc (.deferred (some []))):=by
 have hg:w.grownBy (w.alloc (.deferred (some []))) none:=ae6 w _ none;have s':=s.gH hg;refine⟨s'.Wa (fun d hd => ?_) (List.nodup_cons.2 ⟨fun hm => ?_,s.ig⟩),bg.fB hg (fun b o x=>(s.ec b o x).1) (fun _ _ _=>by simp)⟩
 ·rcases adR.1 hd with rfl|hd
  ·exact⟨s.b0,aeg w _⟩
  ·exact s'.gu d hd
 ·have:=(adS.1 (s.gu _ hm).2).1;omega
theorem St.BR(s:St B0 w0 G h w){rec:Loop}(h1:rec.state = .ready)(h2:rec.pending=none) :
 St B0 w0 { G with lp:=G.lp++[⟨w.heap.size,rec⟩] } { h with lp:=h.lp++[.ready] } (w.alloc (.loop rec))∧bg G.D w (w.alloc (.loop rec))∧Ext G.base G { G with lp:=G.lp++[⟨w.heap.size,rec⟩] }:=by
 have hg:w.grownBy (w.alloc (.loop rec)) none:=ae6 w _ none;have s':=s.gH hg;have hx:Ext G.base G { G with lp:=G.lp++[⟨w.heap.size,rec⟩] }:=
  { D := fun _ _ x=>x,bx:=fun _ _ => .inl ⟨rfl,rfl⟩,tk:=(Ext.refl (cF.le_refl _)).tk,df:=rfl
    lp:=fun j hj=>by have:j<G.lp.length:=hj;simp[adX this] }
 have bo:∀(j:Nat)(p:sC),G.lp[j]? = some p→p.l<w.heap.size:=fun j p hp=>by
  have hj:j<h.lp.length:=by rw[s.fU];exact(adO.1 hp).1
  obtain⟨_,rec',hr,_⟩:=s.loop j p _ hp (adU hj);exact(adS.1 hr).1
 have split:∀(j:Nat)(p:sC),(G.lp++[⟨w.heap.size,rec⟩])[j]? = some p→(j<G.lp.length∧G.lp[j]? = some p)∨(j=G.lp.length∧p=⟨w.heap.size,rec⟩):=fun j p hp=>by
  by_cases hj:j<G.lp.length
  ·rw[adX hj]at hp;exact .inl ⟨hj,hp⟩
  ·rw[adW (by omega)]at hp;have e0:j - G.lp.length=0:=by have:=(adO.1 hp).1;simp at this;omega
   rw[e0]at hp;simp at hp;exact .inr ⟨by omega,hp.symm⟩
 refine⟨?_,bg.fB hg (fun b o x=>(s.ec b o x).1) (fun _ _ _=>by simp),hx⟩;exact
 { s' with
   box:=fun r b cs hb hc=>by obtain⟨hB,ob,hh,hr⟩:=s'.box r b cs hb hc;exact⟨hB,ob,hh,hr.eJ hx (bg.refl _ _) rfl⟩
   tok:=fun t g ht=>s'.tok t g ht
   fU:=by simp[s.fU]
   loop:=fun j p st qc nB=>by
    rcases split j p qc with⟨hj,hp⟩ |⟨rfl,rfl⟩
    ·simp only[adX (show j<h.lp.length by rw[s.fU];exact hj)]at nB;exact s'.loop j p st hp nB
    ·simp only[adW (show h.lp.length≤G.lp.length by rw[s.fU];omega),s.fU,Nat.sub_self]at nB;simp at nB;subst nB;exact⟨s.b0,rec,aeg w _,⟨rfl,rfl,rfl,rfl,rfl,rfl⟩,h1,h2⟩
   ie := fun j j' p p' qc nB e=>by
    rcases split j p qc with⟨hj,hp⟩ |⟨rfl,rfl⟩<;>rcases split j' p' nB with⟨hj',xl⟩ |⟨rfl,rfl⟩
    ·exact s.ie j j' p p' hp xl e
    ·have:=bo j p hp;simp only at e;omega
    ·have:=bo j' p' xl;simp only at e;omega
    ·rfl }
theorem zpc{b:Nat}{o o':Obj}(hb:w.heap[b]? = some o)(h1:∀cs t fr,o ≠ .cells cs t fr)(h2:∀cs t fr,o' ≠ .cells cs t fr)(a:Addr)(ha:∃u,w.cell? a=some u):(w.putObj b o').cell? a=w.cell? a:=by
 by_cases e:a.block=b
 ·exfalso;obtain⟨u,hu⟩:=ha;unfold afq at hu;rw[e,hb]at hu;cases o with
  |cells cs t fr=>exact h1 _ _ _ rfl
  |_=>simp at hu
 ·exact World.cell?_of_block (w:=w) (ad5 e)
theorem zmx{b:Nat}{o:Obj}(hb:Below B0 w0.w w)(h0:B0≤b):Below B0 w0.w (w.putObj b o):=hb.trans ⟨rfl,rfl,rfl,by simp,fun k hk=>ad5 (by omega)⟩
theorem St.y9(s:St B0 w0 G h w){b:Nat}{o o':Obj}(h0:B0≤b)(hb:w.heap[b]? = some o)(h1:∀cs t fr,o ≠ .cells cs t fr)(h2:∀cs t fr,o' ≠ .cells cs t fr)(h3:∀es c,o ≠ .map es c){h':H}{df:List Nat}(jf:h'.bx=h.bx)(EX:h'.tk=h.tk)(Cz:h'.lp.length=h.lp.length)
 (CX:∀(j:Nat)(p:sC)(st:LS),G.lp[j]? = some p→h'.lp[j]? = some st→B0≤p.l∧∃rec,(w.putObj b o').heap[p.l]? = some (.loop rec)∧mW rec p.st∧tB rec st)
 (LZ:∀d∈df,B0≤d∧(w.putObj b o').heap[d]? = some (.deferred (some []))) (Ma:df.Nodup) :
 St B0 w0 { G with df:=df } h' (w.putObj b o')∧bg G.D w (w.putObj b o'):=by
 have hk:bg G.D w (w.putObj b o'):=fun x i hx=>zpc hb h1 h2 _ (s.ec x i hx).1
 have dy:∀(x:Nat)(cs:Array Value)(t:TypeId)(fr:Nat×Nat),w.heap[x]? = some (.cells cs t fr)→(w.putObj b o').heap[x]? = some (.cells cs t fr):=fun x cs t fr hx=>by
  have:x≠b:=fun e=>by rw[e,hb]at hx;exact h1 _ _ _ (adP hx)
  rw[ad5 this];exact hx
 have hx:Ext G.base G G:=Ext.refl (cF.le_refl _);refine⟨?_,hk⟩;exact
 { below:=zmx s.below h0
   b0:=by simpa using s.b0
   eb:=by rw[jf];exact s.eb
   box := fun r q cs e1 e2=>by
    rw[jf]at e2;obtain⟨hB,ob,hh,hr⟩:=s.box r q cs e1 e2
    have c_:q≠b:=fun e=>by
     rw[e,hb]at hh;obtain rfl:=adP hh;cases hr with
     |cells=>exact h1 _ _ _ rfl
     |mp=>exact h3 _ _ rfl
     |fm=>exact h3 _ _ rfl
    exact⟨hB,ob,(ad5 c_).trans hh,zkx (G:=G) (G1:={ G with df:=df }) rfl rfl rfl rfl rfl (hr.eJ hx hk rfl)⟩
   fl:=fun r cs e1 e2=>s.fl r cs e1 (by rw[jf]at e2;exact e2)
   inj:=s.inj
   ec:=fun x i CN=>⟨by obtain⟨u,hu⟩:=(s.ec x i CN).1;exact⟨u,(hk x i CN).trans hu⟩,(s.ec x i CN).2⟩
   fo:=s.fo
   fO:=by rw[EX];exact s.fO
   tok:=fun t g ht=>by obtain⟨e1,e2⟩:=s.tok t g ht;refine⟨e1,fun hl => ?_⟩;obtain⟨q,hA,hB,hn,cs,et,fr,hh,hc,hi⟩:=e2 hl;refine⟨q,hA,hB,hn,cs,et,fr,dy _ _ _ _ hh,hc,fun i i1 i2=>⟨(hi i i1 i2).1,?_⟩⟩;rw[World.frozen?_of_block (w:=w) (by rw[hh];exact dy _ _ _ _ hh)];exact(hi i i1 i2).2
   gA:=s.gA
   fU:=by rw[Cz];exact s.fU
   loop:=CX
   ie:=s.ie
   gu:=LZ
   ig:=Ma }
theorem St.xJ(s:St B0 w0 G h w){j:Nat}{p:sC}{rec rec':Loop}{st:LS}(hp:G.lp[j]? = some p)(pT:w.heap[p.l]? = some (.loop rec))(hB:B0≤p.l)(hs:mW rec' p.st)(hl:tB rec' st) :
 St B0 w0 G (jE h j st) (w.putObj p.l (.loop rec'))∧bg G.D w (w.putObj p.l (.loop rec')):=by
 have bo:p.l<w.heap.size:=(adS.1 pT).1;refine s.y9 (o':=.loop rec') hB pT (by simp) (by simp) (by simp) (df:=G.df) rfl rfl (by simp[jE,zk]) (fun j' p' CY h1 h2 => ?_) (fun d hd=>⟨(s.gu d hd).1,?_⟩) s.ig
 ·simp only[jE,zk]at h2;by_cases e:j=j'
  ·subst e;rw[hp]at h1;obtain rfl:=adP h1;have hj:j<h.lp.length:=by rw[s.fU];exact(adO.1 hp).1
   rw[List.getElem?_set_self (by simpa using hj)]at h2;simp at h2;subst h2;exact⟨hB,rec',World.putObj_heap_same bo,hs,hl⟩
  ·rw[aeh e]at h2;obtain⟨k1,tU,k2,k3⟩:=s.loop j' p' CY h1 h2;refine⟨k1,tU,?_,k3⟩;rw[ad5 (fun ee=>e (s.ie j j' p p' hp h1 ee.symm))];exact k2
 ·have:=(s.gu d hd).2;rw[ad5 (fun ee=>by rw[ee,pT]at this;cases this)];exact this
theorem St.DO(s:St B0 w0 G h w){d:Nat}{ds:List Nat}(hd:G.df=d::ds):St B0 w0 { G with df:=ds } h (w.putObj d (.deferred none))∧bg G.D w (w.putObj d (.deferred none)):=by
 have Ma:=s.ig;rw[hd]at Ma;obtain⟨xq,hn2⟩:=List.nodup_cons.1 Ma;obtain⟨hB,hh⟩:=s.gu d (by rw[hd];simp);refine s.y9 (o':=.deferred none) hB hh (by simp) (by simp) (by simp) (df:=ds) rfl rfl rfl (fun j p st h1 h2 => ?_) (fun d' jK => ?_) hn2
 ·obtain⟨k1,tU,k2,k3⟩:=s.loop j p st h1 h2;refine⟨k1,tU,?_,k3⟩;rw[ad5 (fun ee=>by rw[ee,hh]at k2;cases k2)];exact k2
 ·obtain⟨k1,k2⟩:=s.gu d' (by rw[hd];simp[jK]);refine⟨k1,?_⟩;rw[ad5 (fun ee=>xq (by rw[←ee];exact jK))];exact k2
end
end Go.AM
namespace Go.AM
open Go.RowKit
def nL(conf:List (Nat×Nat))(j i kj ki:Nat):Bool:=
 if(kj=4∨kj=5)∧(ki=4∨ki=5)then false
 else if(kj=1∨kj=2∨kj=3∨kj=5)∧(ki=1∨ki=2∨ki=3∨ki=5)∧((kj=2∨kj=3)∨(ki=2∨ki=3))then dx j i conf else true
def pj(M:List Nat)(o:Oper):Nat:=o.after.toList.foldr (fun e s=>bif aeJ .any e then 2 ^ e.on|||((nth M e.on).getD 0|||s)else s) 0
def sP:List Oper→List Nat→List Nat
 |[],acc=>acc
 |o::os,acc=>sP os (acc++[pj acc o])
def BS(M:List Nat)(i:Nat)(o:Oper):Bool:=o.after.toList.all (fun e => !Region.binds .any e||aeQ e.on i)&&adT ((nth M i).getD 0) (pj M o)
def uZ(tab:Nat→Option TI)(ops:Array Oper)(conf:List (Nat×Nat))(M:List Nat)(q p:Nat×Oper):Bool:=
 !Nat.beq q.1 p.1&&(!Nat.testBit ((nth M q.1).getD 0) p.1&&(aet ((nth M p.1).getD 0) q.1||(!dx q.1 q.1 conf&&(q.2.apart ops p.2 &&
  (bif dx p.1 p.1 conf then adT (cd tab q.2) 0||(adT (cd tab q.2) 1&&dx q.1 p.1 conf)else nL conf q.1 p.1 (cd tab q.2) (cd tab p.2))))))
def tV{α:Type}(f:α→α→Bool):List α→Bool
 |[]=>true
 |a::l=>l.all (f a)&&tV f l
def lJ(tab:Nat→Option TI)(ops:Array Oper)(conf:List (Nat×Nat))(M:List Nat):Bool:=
 (number 0 ops.toList).all (fun p=>BS M p.1 p.2&&(iR conf ops.toList).any fun q=>adT q.1 p.1)&&(adT (iR conf ops.toList).length ops.size&&tV (uZ tab ops conf M) (iR conf ops.toList))
theorem ziw{α:Type}{f:α→α→Bool}:∀{l:List α},tV f l=true↔l.Pairwise fun a b=>f a b=true
 |[]=>by simp[tV]
 |a::l=>by simp[tV,ziw (l:=l)]
section
variable {X:Type} {cx:Cx X} {O:Open X} {Y:Ys} {conf:List (Nat×Nat)} {N nb:Nat} {ops:Array Oper}
theorem Fx.comm{tab:Nat→Option TI}{oj oi:Oper}{j i:Nat}{ej ei:Option Nat}{fj fi:Fx}{h:H}{acc:List (Nat×Nat)}(Wc:fj.fits tab oj ej)(oG:fi.fits tab oi ei)(hp:nL conf j i (cd tab oj) (cd tab oi)=true)
 (h1:fj.ok h) (h2:fi.ok (fj.go h)) (hn:gI conf i ei (push j ej acc)):fi.ok h∧fj.ok (fi.go h)∧fj.go (fi.go h)=fi.go (fj.go h):=by
 have ne:∀q q',ej=some q→ei=some q'→dx j i conf=true→q'≠q:=fun q q' e1 e2 hc e=>by have:=(jH.1 (hn q' e2) (j,q) (by rw[e1];simp[push]) e).1;rw[hc]at this;cases this
 have pk:∀kj ki,(kj=1∨kj=2∨kj=3∨kj=5)→(ki=1∨ki=2∨ki=3∨ki=5)→((kj=2∨kj=3)∨(ki=2∨ki=3))→nL conf j i kj ki=true→dx j i conf=true:=fun kj ki h1 h2 h3 hp=>by unfold nL at hp;rw[if_neg (by omega),if_pos ⟨h1,h2,h3⟩]at hp;exact hp
 cases fj with
 |no=>exact⟨h2,trivial,rfl⟩
 |rd q c =>
  obtain⟨a1,a2⟩:=Wc;have h1:h.bx[q]? = some c:=h1;cases fi with
  |no=>exact⟨trivial,h1,rfl⟩
  |rd q' c'=>exact⟨h2,h1,rfl⟩
  |wr q' c1 c2 =>obtain⟨b1,b2⟩:=oG;have:=ne q q' a1 b1 (pk _ _ (by omega) (by omega) (by omega) hp);exact⟨h2,by show(h.bx.set q' c2)[q]? = some c;rw[aeh this];exact h1,rfl⟩
  |tk t t'=>exact⟨h2,h1,rfl⟩
 |wr q c c' =>
  obtain⟨a1,a2⟩:=Wc;have h1:h.bx[q]? = some c:=h1;cases fi with
  |no=>exact⟨trivial,h1,rfl⟩
  |rd q' d =>obtain⟨b1,b2⟩:=oG;have:=ne q q' a1 b1 (pk _ _ (by omega) (by omega) (by omega) hp);have h2:(h.bx.set q c')[q']? = some d:=h2;rw[aeh (afk this)]at h2;exact⟨h2,h1,rfl⟩
  |wr q' d d' =>obtain⟨b1,b2⟩:=oG;have:=ne q q' a1 b1 (pk _ _ (by omega) (by omega) (by omega) hp);have h2:(h.bx.set q c')[q']? = some d:=h2;rw[aeh (afk this)]at h2;refine⟨h2,by show(h.bx.set q' d')[q]? = some c;rw[aeh this];exact h1,?_⟩;simp only[Fx.go];rw[List.set_comm _ _ this]
  |tk t t'=>exact⟨h2,h1,rfl⟩
 |tk t t' =>
  have a2:cd tab oj=4∨cd tab oj=5:=Wc;cases fi with
  |no=>exact⟨trivial,h1,rfl⟩
  |rd q' d=>exact⟨h2,h1,rfl⟩
  |wr q' d d'=>exact⟨h2,h1,rfl⟩
  |tk s s' =>have b2:cd tab oi=4∨cd tab oi=5:=oG;unfold nL at hp;rw[if_pos ⟨a2,b2⟩]at hp;cases hp
theorem front{k:Env→H→Option X}(hk:Ins k){r:X}{i:Nat}{oi:Oper}{C:List (Nat×Oper)}(hi:dx i i conf=false):∀(A:List (Nat×Oper))(e:Env)(h:H)(acc:List (Nat×Nat)),gm cx conf O N Y nb ops.toList (A++(i,oi)::C) e h acc k=some r →
 (∀q∈A,dx q.1 q.1 conf=false∧q.2.apart ops oi=true∧nL conf q.1 i (cd cx.tab q.2) (cd cx.tab oi)=true) →
 ∃(v:AV)(f:Fx)(en:Option Nat),f.ok h∧f.fits cx.tab oi en∧gI conf i en acc∧rE cx O Y conf N nb ops i oi e v f en∧gm cx conf O N Y nb ops.toList (A++C) (fR e oi.dst v) (f.go h) (push i en acc) k=some r
 |[],e,h,acc,hr,_=>by simp only[afp,gm]at hr;rw[qg hi]at hr;obtain⟨v,f,en,h1,h2,h3,⟨e1,Ar,h4⟩,h5⟩:=VL hr;refine⟨v,f,en,h1,h2,h3,h5,?_⟩;rw[afp,uX hk C _ _ _ _ ((Ar.symm).fR _ _)];exact h4
 | (j,oj)::A,e,h,acc,hr,hA=>by
  obtain⟨hj,EN,We⟩:=hA (j,oj) (by simp);simp only[aeq,gm]at hr;rw[qg hj]at hr;obtain⟨vj,fj,ej,j1,j2,j3,⟨e1,Ar,j4⟩,j5⟩:=VL hr;rw[uX hk _ _ _ _ _ (Ar.fR oj.dst vj)]at j4;obtain⟨vi,fi,ei,i1,i2,i3,i5,i4⟩:=front hk hi A _ _ _ j4 (fun q hq=>hA q (by simp[hq]));obtain⟨p1,p2,p3⟩:=Oper.apart_spec EN;obtain⟨c1,c2,c3⟩:=Fx.comm j2 i2 We j1 i1 i3
  have nM:∀p∈acc,p∈push j ej acc:=fun p hp=>by
   cases ej with
   |none=>exact hp
   |some q=>simp[push,hp]
  have hnj:gI conf j ej (push i ei acc):=fun q hq=>by
   subst hq;refine jH.2 fun p hp he => ?_;cases ei with
   |none=>exact jH.1 (j3 q rfl) p hp he
   |some qi =>
    simp only[push,adR]at hp;rcases hp with rfl|hp
    ·exact And.symm (jH.1 (i3 qi rfl) (j,q) (by simp[push]) he.symm)
    ·exact jH.1 (j3 q rfl) p hp he
  refine⟨vi,fi,ei,c1,i2,i3.less nM,fun e2 h2 lP k2 BN cb EO=>i5 e2 h2 lP k2 (fun t ht => ?_) cb EO,?_⟩
  ·rw[BN t ht,lx,if_neg (fun hd=>p1 t hd ht)]
  ·simp only[aeq,gm];rw[qg hj];obtain⟨e3,Ha,j6⟩:=j5 (fR e oi.dst vi) (fi.go h) (push i ei acc) (fun e h acc=>gm cx conf O N Y nb ops.toList (A++C) e h acc k) (fun t ht=>by rw[lx,if_neg (fun hd=>p3 t hd ht)]) c2 hnj;rw[j6,c3];rw[uX hk _ _ (fR (fR e oj.dst vj) oi.dst vi) _ _ (fun t => ?_),zmv _ _ _ _ (push i ei (push j ej acc)) (fun p => ?_)]
   ·exact i4
   ·cases ei<;>cases ej<;>simp only[push,adR];exact⟨fun h=>by rcases h with h|h|h<;>simp[h],fun h=>by rcases h with h|h|h<;>simp[h]⟩
   ·rw[lx,lx,Ha t,lx,lx];by_cases a1:oj.dst=some t
    ·rw[if_pos a1,if_neg (fun a2=>p2 t a1 a2),if_pos a1]
    ·rw[if_neg a1,if_neg a1]
theorem zky{k:Env→H→Option X}(hk:Ins k){r:X}{i:Nat}{oi:Oper}{C:List (Nat×Oper)}(hi:dx i i conf=true):∀(A:List (Nat×Oper))(e:Env)(h:H)(acc:List (Nat×Nat)),gm cx conf O N Y nb ops.toList (A++(i,oi)::C) e h acc k=some r →
 (∀q∈A,dx q.1 q.1 conf=false∧q.2.apart ops oi=true∧(cd cx.tab q.2=0∨(cd cx.tab q.2=1∧dx q.1 i conf=true))) →
 oi.guard=none∧∃k1:AV→H→Option X,mK cx O Y oi e h k1=some r∧∀av h',k1 av h'=some r→(∀t,oi.dst=some t→t<N)∧(∀p∈acc,dx p.1 i conf=true→nth h.bx p.2=nth h'.bx p.2)∧gm cx conf O N Y nb ops.toList (A++C) (fR e oi.dst av) h' acc k=some r
 |[],e,h,acc,hr,_=>by
  simp only[afp,gm]at hr;rw[GV hi]at hr;unfold BA at hr;split at hr
  ·rename_i hg;refine⟨hg,_,hr,fun av h' l9 => ?_⟩;obtain⟨h1,h2⟩:=xG.1 l9;obtain⟨h3,h4⟩:=GQ h2;exact⟨h3,h1,h4⟩
  ·cases hr
 | (j,oj) :: A,e,h,acc,hr,hA=>by
  obtain⟨hj,EN,As⟩:=hA (j,oj) (by simp);have As:cd cx.tab oj=0∨(cd cx.tab oj=1∧dx j i conf=true):=As;simp only[aeq,gm]at hr;rw[qg hj]at hr;obtain⟨vj,fj,ej,j1,j2,j3,⟨e1,Ar,j4⟩,j5⟩:=VL hr;rw[uX hk _ _ _ _ _ (Ar.fR oj.dst vj)]at j4;obtain⟨p1,p2,p3⟩:=Oper.apart_spec EN;have Wf:fj.go h=h:=by
   cases fj with
   |no=>rfl
   |rd q c=>rfl
   |wr q c c' =>have:cd cx.tab oj=2∨cd cx.tab oj=3:=j2.2;exfalso;omega
   |tk a b =>have:cd cx.tab oj=4∨cd cx.tab oj=5:=j2;exfalso;omega
  rw[Wf]at j4;obtain⟨hg,k1,i1,i2⟩:=zky hk hi A _ _ _ j4 (fun q hq=>hA q (by simp[hq]));refine⟨hg,k1,?_,fun av h' l9 => ?_⟩
  ·rw[VD (e':=fR e oj.dst vj) oi (VK fun t ht=>by rw[lx,if_neg (fun hd=>p1 t hd ht)])];exact i1
  ·obtain⟨g1,g2,g3⟩:=i2 av h' l9
   have nM:∀p∈acc,p∈push j ej acc:=fun p hp=>by
    cases ej with
    |none=>exact hp
    |some q=>simp[push,hp]
   refine⟨g1,fun p hp hc=>g2 p (nM p hp) hc,?_⟩;have cb:fj.ok h'∧fj.go h'=h':=by
    cases fj with
    |no=>exact⟨trivial,rfl⟩
    | rd q c =>
     refine⟨?_,rfl⟩;obtain⟨b1,b2⟩:=j2;subst b1;have h1:h.bx[q]? = some c:=j1
     have:=g2 (j,q) (by simp[push]) (by
      rcases As with hl|hl
      ·have:cd cx.tab oj=1∨cd cx.tab oj=5:=b2;exfalso;omega
      ·exact hl.2)
     rw[zo,zo]at this;show h'.bx[q]? = some c;rw[←this];exact h1
    |wr q c c' =>have:cd cx.tab oj=2∨cd cx.tab oj=3:=j2.2;exfalso;omega
    |tk a b =>have:cd cx.tab oj=4∨cd cx.tab oj=5:=j2;exfalso;omega
   simp only[aeq,gm];rw[qg hj];obtain⟨e3,Ha,j6⟩:=j5 (fR e oi.dst av) h' acc (fun e h acc=>gm cx conf O N Y nb ops.toList (A++C) e h acc k) (fun t ht=>by rw[lx,if_neg (fun hd=>p3 t hd ht)]) cb.1 j3;rw[j6,cb.2];rw[uX hk _ _ (fR (fR e oj.dst vj) oi.dst av) _ _ (fun t => ?_)]
   ·exact g3
   ·rw[lx,lx,Ha t,lx,lx];by_cases a1:oj.dst=some t
    ·rw[if_pos a1,if_neg (fun a2=>p2 t a1 a2),if_pos a1]
    ·rw[if_neg a1,if_neg a1]
end
end Go.AM
namespace Go.AM
open Go.RowKit
section
variable {P:Program} {w:World} {G:GS}
theorem St.BT{B0:Nat}{w0:Wd}{h:H}(s:St B0 w0 G h w):∃G',Ext G.base G G'∧St B0 w0 G' { h with bx:=h.bx++[hole] } w:=by
 have ix:∀r,r<G.bx.length→(fun r=>if r=G.bx.length then(⟨0,0,0,0⟩:tz)else G.bv r) r=G.bv r:=fun r hr=>if_neg (by omega)
 have hx:Ext G.base G { G with bx:=G.bx++[none],bv:=fun r=>if r=G.bx.length then⟨0,0,0,0⟩else G.bv r }:=
  { D := fun _ _ x=>x
    bx:=fun r hr=>by have:r<G.bx.length:=hr;exact .inl ⟨by simp[adX this],ix r this⟩
    tk:=(Ext.refl (cF.le_refl _)).tk
    lp:=fun _ _=>rfl
    df:=rfl }
 have tN:∀(r b:Nat),(G.bx++[none])[r]? = some (some b)→G.bx[r]? = some (some b):=fun r b hr=>by
  by_cases h1:r<G.bx.length
  ·rwa[adX h1]at hr
  ·rw[adW (Nat.le_of_not_lt h1)]at hr;have:=(adO.1 hr).1;have e0:r - G.bx.length=0:=by simp at this;omega
   rw[e0]at hr;simp at hr
 have fY:∀b,some b∈G.bx++[none]→some b∈G.bx:=fun b hb=>by simpa using hb
 refine⟨_,hx,?_⟩;exact
 { below:=s.below
   b0:=s.b0
   eb:=by simp[s.eb]
   box:=fun r b cs h1 h2=>by have h1:=tN r b h1;have hr:r<G.bx.length:=(adO.1 h1).1;simp only[adX (by rw[s.eb];exact hr:r<h.bx.length)]at h2;obtain⟨hB,ob,hh,qb⟩:=s.box r b cs h1 h2;exact⟨hB,ob,hh,qb.eJ hx (bg.refl _ _) (ix r hr)⟩
   fl:=fun r cs h1 h2=>by
    by_cases hr:r<G.bx.length
    ·simp only[adX hr]at h1;simp only[adX (by rw[s.eb];exact hr:r<h.bx.length)]at h2;rcases s.fl r cs h1 h2 with⟨v,τ',e1,e2,e3,e4⟩ |⟨e1,e2⟩
     ·exact .inl ⟨v,τ',e1,e2,e3,(ix r hr).trans e4⟩
     ·exact .inr ⟨e1,(congrArg tz.v (ix r hr)).trans e2⟩
    ·simp only[adW (by rw[s.eb];exact Nat.le_of_not_lt hr:h.bx.length≤r)]at h2;have fN:=(adO.1 h1).1;have e0:r - h.bx.length=0:=by simp at fN;rw[s.eb];omega
     rw[e0]at h2;simp at h2;subst h2;have er:r=G.bx.length:=by simp at fN;omega
     exact .inr ⟨rfl,by rw[er];simp⟩
   inj:=fun r r' b h1 h2=>s.inj r r' b (tN r b h1) (tN r' b h2)
   ec:=fun b o hd=>⟨(s.ec b o hd).1,fun hm=>(s.ec b o hd).2 (fY b hm)⟩
   fo:=s.fo
   fO:=s.fO
   tok:=fun t g ht=>by obtain⟨h1,h2⟩:=s.tok t g ht;refine⟨h1,fun bo => ?_⟩;obtain⟨b,hA,hB,hn,rest⟩:=h2 bo;exact⟨b,hA,hB,fun hm=>hn (fY b hm),rest⟩
   gA:=s.gA
   fU:=s.fU
   loop:=s.loop
   ie:=s.ie
   gu:=s.gu
   ig:=s.ig }
theorem St.y_{B0:Nat}{w0:Wd}:∀(n:Nat){G:GS}{h:H},St B0 w0 G h w→∃G',Ext G.base G G'∧St B0 w0 G' { h with bx:=h.bx++sy n } w
 |0,G,h,s=>⟨G,Ext.refl (cF.le_refl _),by simpa[sy]using s⟩
 |n+1,G,h,s=>by obtain⟨G1,h1,s1⟩:=s.BT;obtain⟨G2,h2,s2⟩:=St.y_ n s1;refine⟨G2,h1.trans (h2.mono (jG h1)),?_⟩;simpa[sy]using s2
theorem St.fill{B0:Nat}{w0:Wd}{h:H}(s:St B0 w0 G h w){q:Nat}(hq:h.bx[q]? = some hole){vs:Array Value}{cs:List AV}(hr:ak w G vs.toList cs)(t:TypeId)(hn:nT cs=true) :
 ∃G',Ext G.base G G'∧bg G.D w (w.alloc (.cells vs t))∧St B0 w0 G' { h with bx:=h.bx.set q cs } (w.alloc (.cells vs t))∧G'.bx[q]? = some (some w.heap.size)∧(G'.bv q).v=0:=by
 have hg:w.grownBy (w.alloc (.cells vs t)) none:=ae6 w _ none;have s':=s.gH hg;have hk:bg G.D w (w.alloc (.cells vs t)):=bg.fB hg (fun b o x=>(s.ec b o x).1) (fun _ _ _=>by simp);have CU:q<h.bx.length:=(adO.1 hq).1;have E0:q<G.bx.length:=by rw[←s.eb];exact CU
 have bo:∀(r b:Nat),G.bx[r]? = some (some b)→b<w.heap.size:=fun r b hb=>by
  have fN:r<h.bx.length:=by rw[s.eb];exact(adO.1 hb).1
  obtain⟨_,_,hh,_⟩:=s.box r b _ hb (adU fN);exact(adS.1 hh).1
 have Au:G.bx[q]? = some none∧(G.bv q).v=0:=by
  have hb:G.bx[q]? = some G.bx[q]:=adU E0;generalize G.bx[q]=z at hb;cases z with
  |none =>
   rcases s.fl q _ hb hq with⟨v,τ,e,h0,hz,hv⟩ |⟨_,e⟩
   ·simp only[hole,List.cons.injEq,AV.row.injEq,and_true]at e;obtain⟨e,_⟩:=e;omega
   ·exact⟨hb,e⟩
  | some b =>
   obtain⟨_,ob,hh,hR⟩:=s.box q b _ hb hq;exfalso;generalize dy:hole=c at hR;cases hR with
   |mp=>simp[hole]at dy
   |fm=>simp[hole]at dy
   |cells _ _ _ hR _ =>
    cases hR with
    |box _ hn _ _=>subst dy;cases hn
    |row v' τ' l' cap h0 hv hz hc hm hs hl =>simp only[hole,List.cons.injEq,AV.row.injEq,and_true]at dy;obtain⟨e,_⟩:=dy;omega
 have hx : Ext G.base G { G with bx:=G.bx.set q (some w.heap.size) }:=
  { D := fun _ _ x=>x
    bx:=fun r _=>by
     by_cases nA:r=q
     ·subst nA;exact .inr (.inr ⟨Au.1,Au.2,some w.heap.size,by simp[E0]⟩)
     ·exact .inl ⟨by simp only[ad9,afk nA,if_false],rfl⟩
    tk:=(Ext.refl (cF.le_refl _)).tk
    lp:=fun _ _=>rfl
    df:=rfl }
 have ma:∀b,some b∈G.bx.set q (some w.heap.size)→some b∈G.bx∨b=w.heap.size:=fun b hb=>by
  obtain⟨x,hx⟩:=List.getElem?_of_mem hb;rw[ad9]at hx;split at hx
  ·simp[E0]at hx;exact .inr hx.symm
  ·exact .inl (aei hx)
 refine⟨_,hx,hk,?_,by simp[E0],Au.2⟩;exact
 { below := s'.below
   b0:=s'.b0
   eb:=by simp[s.eb]
   box := fun r b ds h1 h2=>by
    simp only[ad9]at h1 h2;by_cases nA:q=r
    ·subst nA;rw[if_pos rfl,if_pos E0]at h1;rw[if_pos rfl,if_pos CU]at h2;obtain rfl:=adP (adP h1);obtain rfl:=adP h2;exact⟨s.b0,_,aeg w _,.cells _ _ _ (.box _ _ hr.oZ Au.2 (hr.mono hx hk)) (fun T hT=>(UW hn hr.oZ T hT).elim)⟩
    ·rw[if_neg nA]at h1 h2;obtain⟨hB,ob,hh,qb⟩:=s'.box r b ds h1 h2;exact⟨hB,ob,hh,qb.eJ hx (bg.refl _ _) rfl⟩
   fl:=fun r ds h1 h2=>by
    simp only[ad9]at h1 h2;by_cases nA:q=r
    ·subst nA;rw[if_pos rfl,if_pos E0]at h1;cases h1
    ·rw[if_neg nA]at h1 h2;exact s'.fl r ds h1 h2
   inj := fun r r' b h1 h2=>by
    simp only[ad9]at h1 h2;by_cases e1:q=r
    ·by_cases e2:q=r'
     ·omega
     ·rw[if_pos e1,if_pos (by omega)]at h1;rw[if_neg e2]at h2;obtain rfl:=adP (adP h1);have:=bo r' _ h2;omega
    ·by_cases e2:q=r'
     ·rw[if_pos e2,if_pos (by omega)]at h2;rw[if_neg e1]at h1;obtain rfl:=adP (adP h2);have:=bo r _ h1;omega
     ·rw[if_neg e1]at h1;rw[if_neg e2]at h2;exact s.inj r r' b h1 h2
   ec := fun b o x=>by
    obtain⟨hu,hn⟩:=s'.ec b o x;refine⟨hu,fun hm => ?_⟩;rcases ma b hm with hm|rfl
    ·exact hn hm
    ·obtain⟨u,Ga⟩:=(s.ec _ o x).1;have:=World.block_lt_of_cell? w _ Ga;simp at this
   fo:=s'.fo
   fO:=s'.fO
   tok := fun t g ht=>by
    obtain⟨h1,h2⟩:=s'.tok t g ht;refine⟨h1,fun vQ => ?_⟩;obtain⟨b,hA,hB,hn,ij,et,fr,hh,hc,hi⟩:=h2 vQ;refine⟨b,hA,hB,fun hm => ?_,ij,et,fr,hh,hc,hi⟩;rcases ma b hm with hm|rfl
    ·exact hn hm
    ·obtain⟨b',eT,_,_,Lx,_,_,Gb,_⟩:=(s.tok t g ht).2 vQ;rw[hA]at eT;obtain rfl:=adP eT;have:=(adS.1 Gb).1;omega
   gA:=s'.gA
   fU:=s'.fU
   loop:=s'.loop
   ie:=s'.ie
   gu:=s'.gu
   ig:=s'.ig }
theorem zw2{X:Type}{cx:Cx X}{O:Open X}{Y:Ys}(hT:fC P cx.tab){B0:Nat}{w0:Wd}{h:H}(st:St B0 w0 G h w){a:Act}{e:Env}{N:Nat}(he:eN w G N a.tmps e)(o:Oper)(mb:gn o=true){p:Nat}
 {k:AV→H→Option X} {r:X} (hk:qa cx p O Y o e h k=some r):Good P B0 w0 G w k r ((execOp a.eval o).run P w):=by
 unfold gn at mb;unfold execOp;split at mb
 ·rename_i t ho;unfold qa at hk;simp only[ho]at hk ⊢;split at hk
  ·rename_i ti ht;obtain⟨hc,hk⟩:=zf hk;simp only[adL,b_,eV]at hc;obtain⟨q1,q2,_⟩:=LW hk;obtain⟨z,hz,hR⟩:=jJ (w:=w) (hT t ti ht) (fun e=>by rw[e]at hc;simp at hc;omega);obtain⟨G',hx,gC,jc,hb⟩:=st.fill q1 (hR w G) t (zio hR);exact Good.v' (v:=.pointer (some ⟨w.heap.size,0,none⟩)) (w':=w.alloc (.cells z.cells t)) (by simp[Instr.alloc,hz,newVar,newRow]) ⟨.ref p 0,G',_,hx,gC,jc,.ref _ _ _ hb.1 hb.2,q2⟩
  ·cases hk
 ·rename_i t x ho;unfold qa at hk;simp only[ho]at hk ⊢;split at hk
  ·rename_i ti ht;obtain⟨hc,hk⟩:=zf hk;simp only[adL,b_,eV]at hc;obtain⟨q1,q2,_⟩:=LW hk;have hv:=iZ (he.ev x) ti.ty;obtain⟨G',hx,gC,jc,hb⟩:=st.fill q1 (wu hv (wv (by omega))) t hc.2;exact Good.v' (v:=.pointer (some ⟨w.heap.size,0,none⟩)) (w':=w.alloc (.cells (a.eval x).cells t)) (by simp[Instr.box,newVar,newRow]) ⟨.ref p 0,G',_,hx,gC,jc,.ref _ _ _ hb.1 hb.2,q2⟩
  ·cases hk
 ·cases mb
end
section
variable {P:Program} {B0:Nat} {w0:Wd} {G0:GS} {wb:World} {ρ:Option Nat} {N:Nat}
theorem zt2{X:Type}{cx:Cx X}{O:Open X}{Y:Ys}(hT:fC P cx.tab)(hC:(∀g iY,cx.C g=some iY→mc P (Below B0 w0.w) g iY)∧∀g p,cx.pr g=some p→jg P (Below B0 w0.w) g p)(hO:iU P B0 w0 cx O)(hY:nE cx Y G0 wb){a:Act}{w:World}{e:Env}{h:H}{G:GS}(s:Rel B0 w0 N G0 wb ρ a w e h G){o:Oper}{p:Nat}
 {k:AV→H→Option X} {r:X} (hk:qa cx p O Y o e h k=some r) {next:Act→World→Prop} {Q:Exit→Act→World→Prop} (hn:∀v w',Ends B0 w0 G w k r v w'→next (a.put o.dst v) w'):o.wpIn (FW ρ) 0 P a w next Q:=by
 cases mb:gn o with
 |false =>rw[VJ mb]at hk;exact VX hT hC hO hY s hk hn
 |true =>
  refine⟨fun f _=>trivial,?_⟩;have L6:∀c,o.op ≠ .defer c:=fun c hc=>by unfold gn at mb;rw[hc]at mb;cases mb
  rw[Oper.semAt_eq _ _ _ L6];obtain⟨v,w',kH,hE⟩:=zw2 hT s.st s.env o mb hk;rcases kH with kH|⟨kH,rfl⟩
  ·rw[kH,Oper.uponIn_value];exact hn v w' hE
  ·rw[kH,Oper.uponIn_skip];exact hn _ w' hE
end
end Go.AM
namespace Go.AM
open Go.RowKit
def fu{α:Type}(listed:Array Bool)(l:List (Nat×α)):List (Nat×α):=l.filter fun p => !listed.getD p.1 true
theorem zix{α:Type}:∀{l:List α}{n i:Nat}{a:α},(i,a)∈number n l→n≤i∧l[i - n]? = some a
 |[],n,i,a,h=>by simp[number]at h
 |b :: l,n,i,a,h=>by
  simp only[number,adR,adY]at h;rcases h with⟨rfl,rfl⟩ |h
  ·simp
  ·obtain⟨h1,h2⟩:=zix h;refine⟨by omega,?_⟩;rw[show i - n=(i - (n+1))+1 from by omega];simpa using h2
theorem Wg{α:Type}:∀{l:List α}{n i:Nat}{a:α},n≤i→l[i - n]? = some a→(i,a)∈number n l
 |[],n,i,a,_,h=>by simp at h
 |b :: l,n,i,a,hn,h=>by
  simp only[number,adR,adY];by_cases e:i=n
  ·subst e;simp at h;exact .inl ⟨rfl,h.symm⟩
  ·right;refine Wg (by omega) ?_;rw[show i - n=(i - (n+1))+1 from by omega]at h;simpa using h
theorem Wh{i p:Nat}{listed:Array Bool}:(listed.setIfInBounds i true).getD p true=if p=i then true else listed.getD p true:=by
 by_cases e:p=i
 ·subst e;rw[if_pos rfl];simp only[adZ];by_cases hp:p<listed.size
  ·simp[hp]
  ·simp[Nat.not_lt.1 hp]
 ·rw[if_neg e];simp only[adZ];rw[Array.getElem?_setIfInBounds_ne (afk e)]
theorem zw3{α:Type}{listed:Array Bool}{i:Nat}{L:List (Nat×α)}:fu (listed.setIfInBounds i true) L=(fu listed L).filter fun p => !Nat.beq p.1 i:=by
 unfold fu;rw[List.filter_filter];refine List.filter_congr fun p _ => ?_;rw[Wh];by_cases e:p.1=i
 ·rw[if_pos e,b_.2 e];rfl
 ·rw[if_neg e];have:adT p.1 i=false:=by
   cases hb:adT p.1 i
   ·rfl
   ·exact absurd (b_.1 hb) e
  rw[this];simp
theorem Wi{ops:List Oper}:∀{l:List Nat}{i:Nat}{o:Oper},(i,o)∈uO ops l→ops[i]? = some o
 |[],i,o,h=>by simp[uO]at h
 | k :: l,i,o,h=>by
  simp only[uO]at h;split at h
  ·rename_i o' ho;rcases adR.1 h with h|h
   ·obtain⟨rfl,rfl⟩:=Prod.mk.inj h;rw[←zo];exact ho
   ·exact Wi h
  ·exact Wi h
theorem Mb{conf:List (Nat×Nat)}{ops:List Oper}{i:Nat}{o:Oper}(h:(i,o)∈iR conf ops):ops[i]? = some o:=by
 unfold iR at h;split at h
 ·simpa using (zix h).2
 ·exact Wi h
theorem zw4{M:List Nat}{o:Oper}{e:_}(he:e∈o.after.toList)(hb:aeJ .any e=true):aet (pj M o) e.on=true:=by
 unfold pj;revert he;induction o.after.toList with
 |nil=>intro h;cases h
 | cons a es ih =>
  intro h;simp only[List.foldr_cons];rcases adR.1 h with rfl|h
  ·rw[hb,cond_true,ae8,Nat.testBit_two_pow];simp
  ·have:=ih h;cases aeJ .any a with
   |false=>exact this
   |true=>rw[cond_true,ae8,ae8,this];simp
theorem zw5{M:List Nat}{o:Oper}{j:Nat}(h:aet (pj M o) j=true):∃e∈o.after.toList,aeJ .any e=true∧(e.on=j∨aet ((nth M e.on).getD 0) j=true):=by
 unfold pj at h;revert h;induction o.after.toList with
 |nil=>intro h;simp at h
 | cons e es ih =>
  intro h;simp only[List.foldr_cons]at h;cases hb:aeJ .any e with
  |false =>rw[hb]at h;simp only[cond_false]at h;obtain⟨e',h1,h2⟩:=ih h;exact⟨e',by simp[h1],h2⟩
  |true =>
   rw[hb]at h;simp only[cond_true,ae8,aem]at h;rcases h with h|h|h
   ·rw[Nat.testBit_two_pow]at h;exact⟨e,by simp,hb,.inl (by simpa using h)⟩
   ·exact⟨e,by simp,hb,.inr h⟩
   ·obtain⟨e',h1,h2⟩:=ih h;exact⟨e',by simp[h1],h2⟩
section
variable {X:Type} {P:Program} {cx:Cx X} {O:Open X} {Y:Ys} {conf:List (Nat×Nat)} {N nb:Nat} {ops:Array Oper} {B0:Nat} {w0:Wd} {G0:GS} {wb:World} {ρ:Option Nat}
theorem zrx(hT:fC P cx.tab)(hC:(∀g iY,cx.C g=some iY→mc P (Below B0 w0.w) g iY)∧∀g p,cx.pr g=some p→jg P (Below B0 w0.w) g p)(hO:iU P B0 w0 cx O)(hY:nE cx Y G0 wb){i:Nat}{o:Oper}(hi:ops[i]? = some o){a:Act}{w:World}{e:Env}{h:H}{G:GS}(s:Rel B0 w0 N G0 wb ρ a w e h G){acc:List (Nat×Nat)}
 {k:Env→H→List (Nat×Nat)→Option X} {r:X} (hk:jt cx conf O N Y nb ops.toList i o e h acc k=some r) {next:Act→World→Prop} {Q:Exit→Act→World→Prop}
 (hn:∀a' w' e' h' G' iu,Rel B0 w0 N G0 wb ρ a' w' e' h' G'→k e' h' iu=some r→next a' w') :
 wpOpIn (FW ρ) 0 P ops Q i next a w:=by
 unfold wpOpIn;rw[hi];have go:∀e,Rel B0 w0 N G0 wb ρ a w e h G→qy cx conf O N Y (nb+gX ops.toList i) i o e h acc k=some r→o.wpIn (FW ρ) 0 P a w next Q:=by
  intro e s hk;unfold qy at hk;have hk:=(zf hk).2;have fin:∀iu,(qa cx (nb+gX ops.toList i) O Y o e h fun v h=>put N e o.dst v fun e=>k e h iu)=some r→o.wpIn (FW ρ) 0 P a w next Q:=fun iu hk=>by refine zt2 hT hC hO hY s hk fun v w' hE => ?_;obtain⟨av,G',h',hx,gC,st,hv,ik⟩:=hE;obtain⟨e',s',nk⟩:=(s.step hx gC st).put (e':=e) hv ik;exact hn _ _ _ _ _ _ s' nk
  split at hk
  ·cases gU:jR conf i _ acc with
   |true=>rw[gU]at hk;cases hk
   |false=>rw[gU]at hk;exact fin _ hk
  ·exact fin _ hk
 unfold jt at hk;split at hk
 ·rename_i hg;simp only;rw[if_pos (by simp[ad6,hg])];exact go e s hk
 ·rename_i j rL hg;split at hk
  ·rename_i d hd;split at hk
   ·rename_i b hb;obtain⟨hy,Aq,hv⟩:=zga hd s.env hb;have run:b=rL→qy cx conf O N Y (nb+gX ops.toList i) i o ((d,.bool rL)::e) h acc k=some r →
     (if ad6 o (yielded ops a.tmps)=true then o.wpIn (FW ρ) 0 P a w next Q else(∀f,o.about P w a.eval=some f→(FW ρ).fn f)∧next (a.put o.dst undef) w):=by
     intro tQ hk;subst tQ;rw[if_pos (by simp[ad6,hg,hy])];exact go _ (s.refine Aq hv) hk
    have pass:b = !rL→(put N ((d,.bool (!rL))::e) o.dst (.cr []) fun e=>k e h acc)=some r →
     (if ad6 o (yielded ops a.tmps)=true then o.wpIn (FW ρ) 0 P a w next Q else(∀f,o.about P w a.eval=some f→(FW ρ).fn f)∧next (a.put o.dst undef) w):=by
     intro tQ hk;rw[if_neg (by rw[ad6,hg];simp only[hy,tQ];cases rL<;>simp)];refine⟨fun _ _=>trivial,?_⟩;obtain⟨e',s',nk⟩:=(s.refine Aq (b:=!rL) (by rw[hv,tQ])).put (e':=e) (v:=undef) (sD _ _) hk;exact hn _ _ _ _ _ _ s' nk
    cases rL<;>cases b<;>simp only[cond_true,cond_false]at hk
    ·exact run rfl hk
    ·exact pass rfl hk
    ·exact pass rfl hk
    ·exact run rfl hk
   ·rename_i vs hb;have hy:=zkw hd s.env hb;simp only;rw[if_neg (by rw[ad6,hg];simp[hy])];refine⟨fun _ _=>trivial,?_⟩;obtain⟨e',s',nk⟩:=s.put (e':=e) (v:=undef) (sD _ _) hk;exact hn _ _ _ _ _ _ s' nk
   ·cases hk
  ·cases hk
def DP(ops:Array Oper)(M:List Nat)(listed:Array Bool):Prop:=∀(i:Nat)(o:Oper),ops[i]? = some o→listed.getD i true=true→∀j,aet ((nth M i).getD 0) j=true→listed.getD j true=true
theorem drawn(hT:fC P cx.tab)(hC:(∀g iY,cx.C g=some iY→mc P (Below B0 w0.w) g iY)∧∀g p,cx.pr g=some p→jg P (Below B0 w0.w) g p)(hO:iU P B0 w0 cx O)(hY:nE cx Y G0 wb){M:List Nat}(cb:lJ cx.tab ops conf M=true){k:Env→H→Option X}(hk:Ins k){r:X}{Q:Exit→Act→World→Prop}
 (hq:∀a w e h G,Rel B0 w0 N G0 wb ρ a w e h G→k e h=some r→Q .normal a w) :
 ∀(fuel:Nat)(listed:Array Bool)(a:Act)(w:World)(e:Env)(h:H)(G:GS)(acc:List (Nat×Nat)),Rel B0 w0 N G0 wb ρ a w e h G→listed.size=ops.size→DP ops M listed→(fu listed (iR conf ops.toList)).length≤fuel →
  gm cx conf O N Y nb ops.toList (fu listed (iR conf ops.toList)) e h acc k=some r→wpAnyIn (FW ρ) 0 P .any ops Q fuel listed a w:=by
 unfold lJ at cb;simp only[adL,aey,List.any_eq_true,b_]at cb;obtain⟨l9,kg,xC⟩:=cb;have hpw:=ziw.1 xC;have jL:∀(i:Nat)(o:Oper),ops[i]? = some o→(i,o)∈iR conf ops.toList:=by
  intro i o hi;obtain⟨q,q1,q2⟩:=(l9 (i,o) (Wg (afr _) (by simpa using hi))).2;have h1:=Mb (i:=q.1) (o:=q.2) q1;have e1:q.1=i:=q2;rw[e1]at h1;have e2:q.2=o:=by
   have h2:ops[i]? = some q.2:=by simpa using h1
   rw[hi]at h2;exact(adP h2).symm
  rw[←e1,←e2];exact q1
 have Av:∀(i:Nat)(o:Oper),ops[i]? = some o→(∀e∈o.after.toList,aeJ .any e=true→e.on<i)∧(nth M i).getD 0=pj M o:=by
  intro i o hi;have:=(l9 (i,o) (Wg (afr _) (by simpa using hi))).1;simp only[BS,adL,aey,aem,aeu,b_,eV]at this;refine⟨fun e he hb => ?_,this.2⟩;rcases this.1 e he with h|h
  ·rw[hb]at h;cases h
  ·exact h
 have hR:∀listed,(fu listed (iR conf ops.toList)).Pairwise fun q p=>uZ cx.tab ops conf M q p=true:=fun listed=>hpw.filter _;have DQ:∀{q p:Nat×Oper},uZ cx.tab ops conf M q p=true→q.1≠p.1∧aet ((nth M q.1).getD 0) p.1=false∧(aet ((nth M p.1).getD 0) q.1=true∨(dx q.1 q.1 conf=false∧q.2.apart ops p.2=true ∧
  (dx p.1 p.1 conf=true→cd cx.tab q.2=0∨(cd cx.tab q.2=1∧dx q.1 p.1 conf=true))∧(dx p.1 p.1 conf=false→nL conf q.1 p.1 (cd cx.tab q.2) (cd cx.tab p.2)=true))):=by
  intro q p hr;unfold uZ at hr;simp only[adL,aem,aeu]at hr;refine⟨fun e=>by rw[b_.2 e]at hr;exact absurd hr.1 (by simp),hr.2.1,?_⟩;rcases hr.2.2 with h|⟨h1,h2,h3⟩
  ·exact .inl h
  ·refine .inr ⟨h1,h2,fun hb => ?_,fun hb => ?_⟩
   ·rw[hb,cond_true]at h3;simp only[aem,adL,b_]at h3;exact h3
   ·rw[hb,cond_false]at h3;exact h3
 have empty:∀(listed:Array Bool),listed.size=ops.size→Region.ready .any ops listed=[]→fu listed (iR conf ops.toList)=[]:=by
  intro listed dz hr;cases Wj:fu listed (iR conf ops.toList)with
  |nil=>rfl
  | cons p T =>
   exfalso;obtain⟨i,o⟩:=p;have fY:(i,o)∈fu listed (iR conf ops.toList):=by rw[Wj];simp
   unfold fu at fY;rw[aeB]at fY;have hi:ops[i]? = some o:=by simpa using Mb fY.1
   have h1:listed.getD i true=false:=by simpa using fY.2
   have:i∈Region.ready .any ops listed:=by
    refine mem_ready.2 ⟨h1,o,hi,fun e he hb => ?_⟩;have bo:=(Av i o hi).1 e (by simpa using he) hb;have GG:i<ops.size:=(adS.1 hi).1;have h4:listed.getD e.on true=true:=by
     cases hl:listed.getD e.on true with
     |true=>rfl
     |false =>
      exfalso;have hje:ops[e.on]? = some ops[e.on]:=aef (by omega);have hmj:(e.on,ops[e.on])∈fu listed (iR conf ops.toList):=by unfold fu;rw[aeB];exact⟨jL _ _ hje,by simp[hl]⟩
      rw[Wj]at hmj;rcases adR.1 hmj with h|h
      ·have:e.on=i:=(Prod.mk.inj h).1;omega
      ·have hp:=hR listed;rw[Wj]at hp;have:=(DQ ((aec.1 hp).1 _ h)).2.1;rw[(Av i o hi).2,zw4 (by simpa using he) hb]at this;cases this
    simp only[adZ]at h4 ⊢;rw[aef (by omega)]at h4 ⊢;exact h4
   rw[hr]at this;cases this
 intro fuel;induction fuel with
 |zero =>
  intro listed a w e h G acc s dz gU hlen hr;have h0:fu listed (iR conf ops.toList)=[]:=ad1 (by omega);rw[h0]at hr;refine⟨?_,hq a w e h G s hr⟩;rw[List.eq_nil_iff_forall_not_mem];intro i hi;obtain⟨h1,o,h2,_⟩:=mem_ready.1 hi;have:(i,o)∈fu listed (iR conf ops.toList):=by unfold fu;rw[aeB];exact⟨jL _ _ h2,by simp[h1]⟩
  rw[h0]at this;cases this
 | succ fuel ih =>
  intro listed a w e h G acc s dz gU hlen hr;refine⟨fun h0 => ?_,fun i hi => ?_⟩
  ·have h1:=empty listed dz h0;rw[h1]at hr;exact hq a w e h G s hr
  ·obtain⟨h1,o,h2,h3⟩:=mem_ready.1 hi;have fY:(i,o)∈fu listed (iR conf ops.toList):=by unfold fu;rw[aeB];exact⟨jL _ _ h2,by simp[h1]⟩
   obtain⟨A,C,e1⟩:=List.append_of_mem fY;have Wk:=hR listed;rw[e1]at Wk;have hAi:∀q∈A,uZ cx.tab ops conf M q (i,o)=true:=fun q hq=>(List.pairwise_append.1 Wk).2.2 q hq (i,o) (by simp);have hCi:∀q∈C,uZ cx.tab ops conf M (i,o) q=true:=fun q hq=>(aec.1 (List.pairwise_append.1 Wk).2.1).1 q hq;have e2:fu (listed.setIfInBounds i true) (iR conf ops.toList)=A++C:=by
    rw[zw3,e1,List.filter_append,List.filter_cons]
    have f1:∀{B:List (Nat×Oper)},(∀q∈B,q.1≠i)→B.filter (fun p => !Nat.beq p.1 i)=B:=fun hB=>by
     rw[List.filter_eq_self];intro q hq;have:adT q.1 i=false:=by
      cases hb:adT q.1 i
      ·rfl
      ·exact absurd (b_.1 hb) (hB q hq)
     rw[this];rfl
    rw[f1 (fun q hq=>(DQ (hAi q hq)).1),f1 (fun q hq=>((DQ (hCi q hq)).1).symm)];simp
   have NL:∀j,aet ((nth M i).getD 0) j=true→listed.getD j true=true:=by
    intro j hj;rw[(Av i o h2).2]at hj;obtain⟨ed,d1,d2,d3⟩:=zw5 hj;have hl:=h3 ed (by simpa using d1) d2;have nD:listed.getD ed.on true=true:=by
     simp only[adZ]at hl ⊢;cases hq:listed[ed.on]? with
     |none=>rfl
     |some b=>rw[hq]at hl;exact hl
    rcases d3 with d3|d3
    ·rw[←d3];exact nD
    ·have bo:=(Av i o h2).1 ed d1 d2;have GG:i<ops.size:=(adS.1 h2).1;exact gU ed.on _ (aef (by omega)) nD j d3
   have hA:∀q∈A,dx q.1 q.1 conf=false∧q.2.apart ops o=true∧(dx i i conf=true→cd cx.tab q.2=0∨(cd cx.tab q.2=1∧dx q.1 i conf=true))∧(dx i i conf=false→nL conf q.1 i (cd cx.tab q.2) (cd cx.tab o)=true):=fun q hq=>by
    rcases(DQ (hAi q hq)).2.2 with h5|h5
    ·exfalso;have h6:=NL q.1 h5;have h7:q∈fu listed (iR conf ops.toList):=by rw[e1];simp[hq]
     unfold fu at h7;rw[aeB]at h7;simp[h6]at h7
    ·exact h5
   have NM:DP ops M (listed.setIfInBounds i true):=fun q oq hq Wl j hj=>by
    rw[Wh];rw[Wh]at Wl;split
    ·rfl
    ·by_cases eq:q=i
     ·subst eq;exact NL j hj
     ·rw[if_neg eq]at Wl;exact gU q oq hq Wl j hj
   have Hb:(fu (listed.setIfInBounds i true) (iR conf ops.toList)).length≤fuel:=by rw[e2];rw[e1]at hlen;simp only[List.length_append,aeb]at hlen ⊢;omega
   rw[e1]at hr;cases zA:dx i i conf with
   |false =>
    obtain⟨v,f,en,f1,f2,f3,f4,f5⟩:=front hk zA A e h acc hr (fun q hq=>⟨(hA q hq).1,(hA q hq).2.1,(hA q hq).2.2.2 zA⟩);obtain⟨e3',Ha,gQ⟩:=f4 e h acc (fun e h _=>gm cx conf O N Y nb ops.toList (A++C) e h (push i en acc) k) (fun _ _=>rfl) f1 f3;refine zrx (nb:=nb) (conf:=conf) (acc:=acc) (k:=fun e h _=>gm cx conf O N Y nb ops.toList (A++C) e h (push i en acc) k) hT hC hO hY h2 s (r:=r) ?_ fun a' w' e' h' G' iu s' ik => ?_
    ·rw[gQ,uX hk _ _ _ _ _ (Ha.fR _ _)];exact f5
    ·exact ih _ a' w' e' h' G' _ s' (by simpa using dz) NM Hb (by rw[e2];exact ik)
   |true =>obtain⟨hg,k1,f1,f2⟩:=zky hk zA A e h acc hr (fun q hq=>⟨(hA q hq).1,(hA q hq).2.1,(hA q hq).2.2.1 zA⟩);unfold wpOpIn;rw[h2];simp only;rw[if_pos (by simp[ad6,hg])];refine VX hT hC hO hY s f1 fun v w' hE => ?_;obtain⟨av,G',h',hx,gC,st,hv,ik⟩:=hE;obtain⟨g1,_,g3⟩:=f2 av h' ik;obtain⟨e',s',nk⟩:=(s.step hx gC st).put (e':=e) (d:=o.dst) (k:=fun e=>gm cx conf O N Y nb ops.toList (A++C) e h' acc k) (r:=r) hv (by rw[GR g1];exact g3);exact ih _ _ w' e' h' G' acc s' (by simpa using dz) NM Hb (by rw[e2];exact nk)
theorem zw6{a:Act}{w:World}{e:Env}{h:H}{G:GS}(s:Rel B0 w0 N G0 wb ρ a w e h G):Rel B0 w0 N G0 wb ρ a { w with drawn:=w.drawn+1 } e h G:=by have hg:w.grownBy { w with drawn:=w.drawn+1 } none:=⟨rfl,rfl,rfl,ael _,fun _ _ _=>rfl⟩;exact s.step (Ext.refl (cF.le_refl _)) (fun _ _ _=>rfl) (s.st.gH hg)
theorem zmy:∀(a b:Env)(t:Nat),get (xf a b) t=if(a.map (·.1)).contains t then get a t else get b t
 |[],b,t=>by simp[xf]
 | (d,v)::a,b,t=>by
  simp only[xf,GO,zmy a b t,aes,List.contains_cons];by_cases h:d=t
  ·subst h;simp
  ·rw[if_neg h];have:(t==d)=false:=by simp;exact fun e=>h e.symm
   rw[this,Bool.false_or];simp only[if_neg h]
theorem zkz:∀(lv:List Nat)(e:Env)(t:Nat),t∈lv→get (live lv e) t=get e t
 |[],e,t,h=>by simp at h
 |d :: lv,e,t,h=>by
  simp only[live,aes,GO];by_cases hd:d=t
  ·subst hd;simp
  ·rw[if_neg hd];exact zkz lv e t (by simpa[afk hd]using h)
open Classical in
noncomputable def po(J:Env→Prop)(k:Env→H→Option X):Env→H→Option X:=fun e h=>if J e then k e h else none
theorem zry{J:Env→Prop}(hJ:∀e e',eO e e'→J e→J e'){k:Env→H→Option X}(hk:Ins k):Ins (po J k):=fun e e' h he=>by
 unfold po;by_cases h1:J e
 ·rw[if_pos h1,if_pos (hJ _ _ he h1),hk e e' h he]
 ·rw[if_neg h1,if_neg (fun h2=>h1 (hJ _ _ he.symm h2))]
theorem zpd{J:Env→Prop}{k:Env→H→Option X}{e:Env}{h:H}{r:X}(hr:po J k e h=some r):J e∧k e h=some r:=by
 unfold po at hr;split at hr
 ·rename_i h1;exact⟨h1,hr⟩
 ·cases hr
theorem zt3{J:Env→Prop}(hJ:∀e e',eO e e'→J e→J e'){k:Env→H→Option X}(hk:Ins k):∀(os:List (Nat×Oper)),(∀p∈os,∀e v,J e→J (fR e p.2.dst v))→∀(e e':Env)(h:H)(acc:List (Nat×Nat)),J e→eO e e' →
 gm cx conf O N Y nb ops.toList os e h acc (po J k)=gm cx conf O N Y nb ops.toList os e' h acc k
 |[],_,e,e',h,acc,hj,he=>by simp only[gm];unfold po;rw[if_pos hj];exact hk e e' h he
 |(i,o)::os,hd,e,e',h,acc,hj,he=>by simp only[gm];exact ziu (J:=J) (hd (i,o) (by simp)) hJ (fun e e' h acc hj he=>zt3 hJ hk os (fun p hp=>hd p (by simp[hp])) e e' h acc hj he) he hj h acc
theorem zmz:∀{l:List Oper}{o:Oper}{d:Nat},o∈l→o.dst=some d→d∈dstsOf l
 |[],o,d,h,_=>by simp at h
 | b :: l,o,d,h,hd=>by
  simp only[dstsOf];rcases adR.1 h with rfl|h
  ·rw[hd];simp
  ·have:=zmz h hd;split
   ·exact aeX _ this
   ·exact this
theorem zpe(ad2:P.follows .mixedOrders=true)(hT:fC P cx.tab)(hC:(∀g iY,cx.C g=some iY→mc P (Below B0 w0.w) g iY)∧∀g p,cx.pr g=some p→jg P (Below B0 w0.w) g p)(hO:iU P B0 w0 cx O)(hY:nE cx Y G0 wb){M:List Nat}(cb:lJ cx.tab ops conf M=true)(id:Nat){k:Env→H→Option X}{r:X}{Q:Exit→Act→World→Prop}
 (hq:∀a w e h G,Rel B0 w0 N G0 wb ρ a w e h G→k e h=some r→Q .normal a w) {a:Act} {w:World} {e:Env} {h:H} {G:GS} (s:Rel B0 w0 N G0 wb ρ a w e h G)
 (hk:F5 cx conf O N Y ops.toList e h k=some r):(Code.region id ops true).wpIn (FW ρ) 0 P Q a w:=by
 refine wpIn_region_any ad2 ?_;have all:fu (aeY ops.size false) (iR conf ops.toList)=iR conf ops.toList:=by
  unfold fu;rw[List.filter_eq_self];intro p hp;have h1:=Mb (i:=p.1) (o:=p.2) hp;have h2:p.1<ops.size:=by have:=(adO.1 h1).1;simpa using this
  simp[adZ,h2]
 have hlen:(iR conf ops.toList).length=ops.size:=by unfold lJ at cb;simp only[adL,b_]at cb;exact cb.2.1
 have NP:Ins (fun e' h=>k (xf (live (dstsOf ops.toList) e') e) h):=by
  intro e1 e2 h he;have:live (dstsOf ops.toList) e1=live (dstsOf ops.toList) e2:=List.map_congr_left fun t _=>by rw[he t]
  simp only[this]
 let J:Env→Prop:=fun e'=>∀t,t∉dstsOf ops.toList→get e' t=get e t
 have hJ:∀e e',eO e e'→J e→J e':=fun e1 e2 he hj t ht=>by rw[←he t];exact hj t ht
 have ik:=(zt3 (nb:=h.bx.length) hJ NP (iR conf ops.toList) (fun p hp e1 v hj t ht=>by
  rw[lx,if_neg]
  ·exact hj t ht
  ·intro hd;exact ht (zmz (o:=p.2) (aei (Mb (o:=p.2) hp)) hd)) e e { h with bx:=h.bx++sy (gX ops.toList ops.toList.length) } [] (fun _ _=>rfl) (eO.refl e)).trans hk
 obtain⟨G1,oJ,st1⟩:=s.st.y_ (gX ops.toList ops.toList.length);refine drawn (nb:=h.bx.length) (k:=po J fun e' h=>k (xf (live (dstsOf ops.toList) e') e) h) hT hC hO hY cb (zry hJ NP) ?_ ops.size (aeY ops.size false) a _ e { h with bx:=h.bx++sy (gX ops.toList ops.toList.length) } G1 [] (zw6 (s.step oJ (bg.refl _ _) st1)) (by simp) ?_ (by rw[all,hlen];exact ael _) (by rw[all];exact ik)
 ·intro a1 w1 e1 h1 G1 s1 hr;obtain⟨hj,hr⟩:=zpd hr;refine hq a1 w1 _ h1 G1 ⟨⟨s1.env.size,fun t => ?_⟩,s1.st,s1.ext,s1.eJ,s1.wC⟩ hr;have oE:(live (dstsOf ops.toList) e1).map (·.1)=dstsOf ops.toList:=by unfold live;rw[List.map_map];exact List.map_id _
  rw[zmy,oE];split
  ·rename_i hc;rw[zkz _ _ _ (by simpa using hc)];exact s1.env.rep t
  ·rename_i hc;rw[←hj t (by simpa using hc)];exact s1.env.rep t
 ·intro i o hi hl;have h2:i<ops.size:=(adS.1 hi).1;simp[adZ,h2]at hl
end
end Go.AM
namespace Go.AM
open Go.RowKit
section
variable {P:Program} {F:Fence} {n:Nat} {b:Frame} {a:Act} {k:List Item} {cs:List Frame} {w:World} {Q:Exit→Act→World→Prop}
theorem wD{c:Code}:step P (lone (b.atR a (.code (.scope c)::k)) cs w) = .next (lone (b.atR a (.code c :: .inScope c::k)) cs w):=step_lone_go (by simp[stepG,stepG.exec,Frame.atR])
theorem zj1{c:Code}:step P (lone (b.atR a (.inScope c::k)) cs w) = .next (lone (b.atR a k) cs w):=step_lone_go (by simp[stepG,stepG.exec,Frame.atR])
theorem zrz{c:Code}(h:c.wpIn F n P (Exit.noGoto Q) a w):(Code.scope c).wpIn F n P Q a w:=by
 intro b k cs hro hb hr;have h0:(lone (b.atR a (.code (.scope c)::k)) cs w).fenced P F:=fenced_calm hb hr rfl;obtain⟨e,a₁,w₁,hq,zB⟩:=h b (.inScope c::k) cs hro hb hr;cases e with
 |normal=>exact⟨.normal,a₁,w₁,hq,.head h0 wD (StepsIn.trans zB (.one (fenced_calm hb hr rfl) zj1))⟩
 | exit id =>
  have hx:exitTo id (.inScope c::k)=exitTo id k:=by simp[exitTo]
  exact⟨.exit id,a₁,w₁,hq,fun k' hk => .head h0 wD (zB.1 k' (by rw[hx];exact hk)),
   fun fN hk=>let ⟨k₁,h1,h2⟩:=zB.2 fN (by rw[hx];exact hk);⟨k₁,h1,.head h0 wD h2⟩⟩
 |goto l=>exact hq.elim
 |ret=>exact⟨_,a₁,w₁,hq,.of_steps (.one h0 wD) zB⟩
 |panic ch=>exact⟨_,a₁,w₁,hq,.of_steps (.one h0 wD) zB⟩
 |outgrown=>exact⟨_,a₁,w₁,hq,.of_steps (.one h0 wD) zB⟩
end
section
variable {X:Type}
def nN(cx:Cx X)(g N:Nat)(b:Code)(li:bm X):Prop:=
 ∃(L:Nat→Ks X→li.head.den→Option X)(n:Nat),(∀ks s,li.f ks s=L n ks s)∧(∀ks s,L 0 ks s=none) ∧
  ∀m ks s,L (m+1) ks s=exec cx (inl cx li.d) ⟨g,N,li.B,li.d⟩ (li.head.y s) b (oY li.B (li.head.y s) li.head li.rH li.mr (L m ks) ks) (li.head.e s) (li.head.h s)
def xK(cx:Cx X)(g N:Nat)(b:Code)(ci:ar X):Prop:=
 ∀ks s,ci.f ks s=exec cx (inl cx ci.d) ⟨g,N,ci.B,ci.d⟩ (ci.head.y s) b (uQ ci.B ci.iw ci.rH ci.mr ks) (ci.head.e s) (ci.head.h s)
def lA(cx:Cx X)(g N:Nat):Code→Prop
 |.seq a b=>lA cx g N a∧lA cx g N b∧∀ci∈rB cx g b,xK cx g N b ci
 |.cond _ a b=>lA cx g N a∧lA cx g N b
 |.block _ b=>lA cx g N b
 |.scope b=>lA cx g N b
 |.loop b=>lA cx g N b∧∀li∈m_ cx g b,nN cx g N b li
 |.rangeFunc _ ps aS b=>lA cx g N aS∧lA cx g N b∧∀i,(match oz aS with |some i=>some i |none=>oz b)=some i→∃lv,cx.lr g i=some (N,lv,ps.toList,aS,b)
 |.region i ops dr=>dr=true→lJ cx.tab ops (cx.conf g i) (sP ops.toList [])=true
 |_=>True
structure a_ (P:Program) (W:World→Prop) (cx:Cx X):Prop where
 mixed:P.follows .mixedOrders=true
 tab:fC P cx.tab
 C:(∀g iY,cx.C g=some iY→mc P W g iY)∧∀g p,cx.pr g=some p→jg P W g p
 fns : ∀ g fn, cx.fns g = some fn → P.funcs[g]? = some fn ∧ fn.name ≠ "runtime.NumGoroutine"
 code:∀g fn c,cx.fns g=some fn→fn.body=some c→lA cx g fn.ntmps c
 lr:∀g i N lv ps aS b,cx.lr g i=some (N,lv,ps,aS,b)→lA cx g N aS∧lA cx g N b
theorem Wm{fm:Fm}{Y:Ys}{ks:Ks X}{e:Env}{h:H}{r:X}:∀{l:List (bm X)},yZ fm Y ks e h l=some r→∃li∈l,li.d=fm.d∧li.B=fm.B∧∃s,li.head.fit fm.B Y e h=some s∧li.f ks s=some r
 |[],hk=>by simp[yZ]at hk
 | li::l,hk=>by
  simp only[yZ]at hk;cases hc:(adT li.d fm.d&&li.B.beq fm.B)with
  |false =>rw[hc]at hk;obtain⟨CZ,hm,rest⟩:=Wm hk;exact⟨CZ,by simp[hm],rest⟩
  |true =>
   rw[hc]at hk;simp only[cond_true]at hk;split at hk
   ·rename_i s hs;simp only[adL,b_,cF.beq]at hc;refine⟨li,by simp,hc.1,?_,s,hs,hk⟩;obtain⟨_,⟨h1,h2⟩,h3⟩:=hc;cases kB:li.B;cases ly:fm.B;rw[kB,ly]at h1 h2 h3;simp only at h1 h2 h3;rw[h1,h2,h3]
   ·obtain⟨CZ,hm,rest⟩:=Wm hk;exact⟨CZ,by simp[hm],rest⟩
theorem Wn{fm:Fm}{Y:Ys}{ks:Ks X}{e:Env}{h:H}{r:X}:∀{l:List (ar X)},xd fm Y ks e h l=some r→∃li∈l,li.d=fm.d∧li.B=fm.B∧∃s,li.head.fit fm.B Y e h=some s∧li.f ks s=some r
 |[],hk=>by simp[xd]at hk
 | li::l,hk=>by
  simp only[xd]at hk;cases hc:(adT li.d fm.d&&li.B.beq fm.B)with
  |false =>rw[hc]at hk;obtain⟨CZ,hm,rest⟩:=Wn hk;exact⟨CZ,by simp[hm],rest⟩
  |true =>
   rw[hc]at hk;simp only[cond_true]at hk;split at hk
   ·rename_i s hs;simp only[adL,b_,cF.beq]at hc;refine⟨li,by simp,hc.1,?_,s,hs,hk⟩;obtain⟨_,⟨h1,h2⟩,h3⟩:=hc;cases kB:li.B;cases ly:fm.B;rw[kB,ly]at h1 h2 h3;simp only at h1 h2 h3;rw[h1,h2,h3]
   ·obtain⟨CZ,hm,rest⟩:=Wn hk;exact⟨CZ,by simp[hm],rest⟩
section
variable {P:Program} {cx:Cx X} {d:Nat} {B0:Nat} {w0:Wd} {N:Nat} {G0:GS} {wb:World} {ρ:Option Nat} {g:Nat} {Y:Ys}
theorem ziy(hx:a_ P (Below B0 w0.w) cx)(hO:iU P B0 w0 cx (inl cx d))(hρ:∀l,ρ=some l→∃(j:Nat)(p:sC),G0.lp[j]? = some p∧p.l=l)(hY:nE cx Y G0 wb){f:Operand}{ps:Array Tmp}{aS b:Code}
 (C0:∀i,(match oz aS with|some i=>some i|none=>oz b)=some i→∃lv,cx.lr g i=some (N,lv,ps.toList,aS,b)) {ks:Ks X} {r:X} {Q:Exit→Act→World→Prop} (fQ:NK B0 w0 N G0 wb ρ ks r Q) {a:Act} {w:World} {e:Env} {h:H} {G:GS}
 (s:Rel B0 w0 N G0 wb ρ a w e h G) (hk:exec cx (inl cx d) ⟨g,N,G0.base,d⟩ Y (.rangeFunc f ps aS b) ks e h=some r):(Code.rangeFunc f ps aS b).wpIn (FW ρ) 0 P Q a w:=by
 simp only[exec]at hk;have BP:=s.env.ev f;split at hk
 ·rename_i gf first cap i nh hi
  rw[nh]at BP;obtain⟨lv,C0⟩:=C0 i hi;rw[C0]at hk;simp only at hk;have Wo:∀{w':World}{G':GS},eN w' G' N a.tmps e→eN w' G' N a.tmps (live lv e):=fun h=>zmm (lv:=[]) (e:=[]) (t:=0) h.size fun p hp=>by simp only[live,afm]at hp;obtain⟨t,_,rfl⟩:=hp;exact h.rep t
  refine wpIn_rangeFunc fun fn _ => ?_;obtain⟨l,mark,w1,rec,G1,Mc,st1,l9,oJ,E1,pT,hp1,Wp,hp3,Wq,LZ⟩:∃(l:Nat)(mark:List Deferred)(w1:World)(rec:Loop)(G1:GS),
   (Instr.enterLoop fn a.tmps ps aS b (FW ρ).round).run P w = .ok (l,mark) w1∧St B0 w0 G1 { h with lp:=h.lp++[.ready] } w1∧bg G.D w w1∧Ext G.base G.nd G1.nd∧G1.lp=G.lp++[⟨l,rec⟩]∧w1.heap[l]? = some (.loop rec) ∧
   rec.tmps=a.tmps∧rec.params=ps∧rec.assign=aS∧rec.body=b∧(∃ms,mark=ms.map wW∧G1.df=ms++G.df∧(ρ≠none→ms=[])):=by
   cases hr:ρ with
   |none =>
    obtain⟨s1,k1⟩:=s.st.Wb;obtain⟨s2,k2,x2⟩:=s1.BR (rec:={ state:=.ready,pending:=none,fn,tmps:=a.tmps,params:=ps,assign:=aS,body:=b,defers:=w.heap.size }) rfl rfl;refine⟨_,_,_,{ state:=.ready,pending:=none,fn,tmps:=a.tmps,params:=ps,assign:=aS,body:=b,defers:=w.heap.size },_,run_enterLoop_outer _ _ _ _ _,s2,k1.trans (fun _ _ x=>x) k2,x2.nd,?_,?_,rfl,rfl,rfl,rfl,[w.heap.size],rfl,rfl,fun h=>absurd rfl h⟩
    ·simp
    ·have:=aeg (w.alloc (.deferred (some []))) (.loop { state:=.ready,pending:=none,fn,tmps:=a.tmps,params:=ps,assign:=aS,body:=b,defers:=w.heap.size });rwa[World.size_alloc]at this
   |some l0 =>
    obtain⟨j0,p0,E2,k7⟩:=hρ l0 hr;have NQ:G.lp[j0]? = some p0:=(s.ext.lp j0 (adO.1 E2).1).trans E2;have sJ:j0<h.lp.length:=by rw[s.st.fU];exact(adO.1 NQ).1
    obtain⟨_,NR,Hc,_⟩:=s.st.loop j0 p0 _ NQ (adU sJ);rw[k7]at Hc;obtain⟨s2,k2,x2⟩:=s.st.BR (rec:={ state:=.ready,pending:=none,fn,tmps:=a.tmps,params:=ps,assign:=aS,body:=b,defers:=NR.defers }) rfl rfl;exact⟨_,_,_,{ state:=.ready,pending:=none,fn,tmps:=a.tmps,params:=ps,assign:=aS,body:=b,defers:=NR.defers },_,run_enterLoop_inner Hc _ _ _ _ _,s2,k2,x2.nd,rfl,aeg w _,rfl,rfl,rfl,rfl,[],rfl,rfl,fun _=>rfl⟩
  have hlen:h.lp.length=G.lp.length:=s.st.fU;have Hd:G1.lp[h.lp.length]? = some ⟨l,rec⟩:=by rw[E1,hlen];simp
  generalize V_:a.eval f=fv at BP;cases BP with
  | fn _ x y _ _ n9 h1 l8 h2 =>
   have He:eN w1 G1 N a.tmps e:=VW s.env oJ l9;have hY1:nE cx ((h.lp.length,⟨g,i,live lv e⟩)::Y) G1 w1:=by
    intro j hd hl;simp only[xc]at hl;by_cases ej:h.lp.length=j
    ·subst ej;rw[b_.2 rfl]at hl;simp only[cond_true,adK]at hl;subst hl;exact⟨_,Hd,N,_,_,_,_,C0,by rw[Wp],hp3,Wq,by rw[hp1];exact Wo He⟩
    ·have:adT h.lp.length j=false:=by
      cases hb:adT h.lp.length j
      ·rfl
      ·exact absurd (b_.1 hb) ej
     rw[this]at hl;simp only[cond_false]at hl;exact(hY.go s.ext s.eJ).go oJ l9 j hd hl
   have jh:ak w1 G1 (x++#[afj (.yield l) #[] #[]]++y).toList (first++[AV.yield h.lp.length]++cap):=by
    rw[Array.toList_append,Array.toList_append];have t1:ak w G x.toList first:=⟨by simpa using n9,fun i v c hv hc=>h1 i v c (by simpa using hv) hc⟩
    have t2:ak w G y.toList cap:=⟨by simpa using l8,fun i v c hv hc=>h2 i v c (by simpa using hv) hc⟩;have mv:∀{vs:List Value}{cs:List AV},ak w G vs cs→ak w1 G1 vs cs:=fun t=>⟨t.1,fun i v c hv hc=>zkv ((ztz (t.2 i v c hv hc)).mono (G:=G.nd) (G':=G1.nd) oJ l9)⟩;exact((mv t1).append (.cons (.yield _ ⟨l,rec⟩ Hd) .nil)).append (mv t2)
   obtain⟨Wr,Ap⟩:=hO.call gf _ _ _ _ r hk G1 w1 _ st1 hY1 jh
   have Ws:∀(e':Ending)(w':World),sN B0 w0 G1 w1 (fun _ h'=>match nth h'.lp h.lp.length with
    |some .ready=>ks.iw e (jE h' h.lp.length .busy)
    |some (.done .ret)=>ks.ret e (jE h' h.lp.length .busy)
    |some (.done (.ex i))=>bif aeQ i mJ then ks.ex i e (jE h' h.lp.length .busy)else none
    |_=>none) r e' w'→rangePost (FW ρ) 0 P l Q { a with defers:=mark++a.defers } e' w':=by
    intro e' w' hR;cases e' with
    |panicked ch=>exact hR.elim
    |outgrown=>exact hR.elim
    | returned v =>
     obtain⟨av,G',h',C1,Wt,Hf,hvE,ph⟩:=hR;have yI:G'.lp[h.lp.length]? = some ⟨l,rec⟩:=(C1.lp h.lp.length (adO.1 Hd).1).trans Hd;have sJ:h.lp.length<h'.lp.length:=by rw[Hf.fU];exact(adO.1 yI).1
     obtain⟨hB,rec',Hg,sO,yJ⟩:=Hf.loop h.lp.length ⟨l,rec⟩ _ yI (adU sJ);simp only[zo,adU sJ]at ph;have fin:∀(jump:Option Code),rec'.state ≠ .busy→rec'.pending=jump→∃w4,(Instr.endLoop l).run P w' = .ok jump w4∧Rel B0 w0 N G0 wb ρ { a with defers:=mark++a.defers } w4 e (jE h' h.lp.length .busy) G':=by
      intro jump hb hj;obtain⟨st4,hk4⟩:=Hf.xJ (rec':={ rec' with state:=.exhausted }) (st:=.busy) yI Hg hB sO trivial;refine⟨_,by rw[←hj];exact run_endLoop Hg hb,?_⟩;refine⟨?_,st4,?_,?_,?_⟩
      ·have:=He.mono C1 Wt;exact this.mono (Ext.refl (cF.le_refl _)) hk4
      ·have b1:G.base.le G1.base:=jG (G0:=G.nd) (G:=G1.nd) oJ;exact(s.ext.trans (oJ.mono s.base)).trans (C1.nd.mono (cF.le_trans s.base b1))
      ·have t1:=s.eJ.trans s.ext.D l9;have t2:=t1.trans (fun b o q=>oJ.D b o (s.ext.D b o q)) Wt;exact t2.trans (fun b o q=>C1.D b o (oJ.D b o (s.ext.D b o q))) hk4
      ·obtain⟨ds,d1,d2,d3⟩:=s.wC;obtain⟨ms,m1,m2,m3⟩:=LZ;exact⟨ms++ds,by simp[d1,m1],by rw[C1.df,m2,d2,List.append_assoc],fun hn=>by rw[m3 hn,d3 hn];rfl⟩
     simp only[rangePost];split at ph
     ·rename_i zC;obtain⟨w4,BU,BV⟩:=fin none (by
       have:tB rec' .ready:=by rw[←adP zC];exact yJ
       rw[this.1];simp) (by
       have:tB rec' .ready:=by rw[←adP zC];exact yJ
       exact this.2)
      exact⟨none,w4,BU,fQ.iw _ _ _ _ _ BV ph⟩
     ·rename_i zC;have hL:tB rec' (.done .ret):=by rw[←adP zC];exact yJ
      obtain⟨w4,BU,BV⟩:=fin (some .ret) (by rw[hL.1];simp) hL.2;exact⟨some .ret,w4,BU,wpIn_ret (fQ.ret _ _ _ _ _ BV ph)⟩
     ·rename_i ii zC;have hL:tB rec' (.done (.ex ii)):=by rw[←adP zC];exact yJ
      obtain⟨w4,BU,BV⟩:=fin (some (.exit ii)) (by rw[hL.1];simp) hL.2;obtain⟨BW,ph⟩:=zf ph;exact⟨some (.exit ii),w4,BU,wpIn_exit (fQ.ex _ _ _ _ _ _ (eV.1 BW) BV ph)⟩
     ·cases ph
   have kH:(resolve a.eval (rangeCall f l) 0).run P w1 = .ok { target:=.fn (.func gf) y,args:=x++#[afj (.yield l) #[] #[]] } w1:=by simp only[resolve,V_];simp[afl,Act.eval]
   have Md:CallsIn (FW ρ) 0 P gf (x++#[afj (.yield l) #[] #[]]++y) w1 (rangePost (FW ρ) 0 P l Q { a with defers:=mark++a.defers }):=CallsIn.mono (F:=FW ρ) (n:=0) Ap Ws;exact⟨l,mark,w1,{ target:=.fn (.func gf) y,args:=x++#[afj (.yield l) #[] #[]] },w1,gf,x++#[afj (.yield l) #[] #[]]++y,w1,Mc,kH,fun _ _=>trivial,Wr,(fun h=>by cases h),Md⟩
 ·cases hk
theorem Me(hx:a_ P (Below B0 w0.w) cx)(hO:iU P B0 w0 cx (inl cx d))(hρ:∀l,ρ=some l→∃(j:Nat)(p:sC),G0.lp[j]? = some p∧p.l=l)(hY:nE cx Y G0 wb){r:X}:∀(c:Code),lA cx g N c→∀(ks:Ks X)(Q:Exit→Act→World→Prop),NK B0 w0 N G0 wb ρ ks r Q →
 ∀(a:Act)(w:World)(e:Env)(h:H)(G:GS),Rel B0 w0 N G0 wb ρ a w e h G→exec cx (inl cx d) ⟨g,N,G0.base,d⟩ Y c ks e h=some r→c.wpIn (FW ρ) 0 P Q a w:=by
 intro c;induction c with
 |skip=>exact fun _ ks Q fQ a w e h G s hk=>wpIn_skip (fQ.iw _ _ _ _ _ s hk)
 |label l=>exact fun _ ks Q fQ a w e h G s hk=>wpIn_label (fQ.iw _ _ _ _ _ s hk)
 |exit i=>exact fun _ ks Q fQ a w e h G s hk=>wpIn_exit (fQ.ex _ _ _ _ _ _ (eV.1 (zf (by simpa only[exec]using hk)).1) s (zf (by simpa only[exec]using hk)).2)
 |ret=>exact fun _ ks Q fQ a w e h G s hk=>wpIn_ret (fQ.ret _ _ _ _ _ s hk)
 |refuse _=>exact fun _ ks Q fQ a w e h G s hk=>by simp[exec]at hk
 |goto l=>exact fun _ ks Q fQ a w e h G s hk=>by simp[exec]at hk
 | region id ops dr =>
  intro cb ks Q fQ a w e h G s hk;cases dr with
  | false =>
   refine wpIn_region ?_
   have:=ziv (ρ:=ρ) hx.tab hx.C hO hY ops fQ.iw (fun T q p a w e h G hq s hv hk=>by
    obtain⟨xu,hk⟩:=zf hk;rw[Nat.mul_add_mod,Nat.mod_eq_of_lt hq]at xu;have bo:q<G0.bx.length:=eV.1 xu;cases hv with
    |ref _ _ b hb h0 =>
     refine fQ.BQ T q b a w e h G hq s ?_ hk;rcases s.ext.bx q bo with⟨h1,_⟩ |⟨h1,h2,_⟩ |⟨h1,_,_⟩
     ·have qc:G.bx[q]? = G0.bx[q]?:=h1;exact .inl (by rw[←qc];exact hb)
     ·exact absurd h2 (by show ¬_<(G.bv q).v;omega)
     ·exact .inr h1) ops.toList 0 rfl a w e h G s hk
   rw[List.range_eq_range',←aek];exact this
  |true=>exact zpe hx.mixed hx.tab hx.C hO hY (cb rfl) id fQ.iw s hk
 | cond c a b tW tX =>
  intro cb ks Q fQ act w e h G s hk;simp only[lA]at cb;simp only[exec]at hk;split at hk
  ·rename_i v hv;have hc:=s.env.ev c;rw[hv]at hc;refine wpIn_cond_split (n5 hc) (fun hb => ?_) (fun hb => ?_)
   ·subst hb;exact tW cb.1 ks Q fQ act w e h G s hk
   ·subst hb;exact tX cb.2 ks Q fQ act w e h G s hk
  ·cases hk
 | block i b ih =>
  intro cb ks Q fQ a w e h G s hk;refine wpIn_block (ih cb { ks with ex:=fun j e h=>bif adT j i then bif aeQ j mJ then ks.iw e h else none else ks.ex j e h } (Exit.inBlock i Q) ⟨fQ.iw,fun j a w e h G hjP s hk => ?_,fQ.ret,fun T q b a w e h G hq s hb hk => ?_⟩ a w e h G s hk)
  case refine_2 =>
   simp only at hk;cases hj:adT (mJ*(T+1)+q) i with
   |false=>rw[hj,cond_false]at hk;exact fQ.BQ T q b a w e h G hq s hb hk
   |true =>rw[hj,cond_true]at hk;obtain⟨h1,_⟩:=zf hk;have:=eV.1 h1;unfold mJ at this;omega
  simp only at hk;by_cases hj:j=i
  ·subst hj;rw[b_.2 rfl,cond_true]at hk;obtain⟨_,hk⟩:=zf hk;simp only[Exit.inBlock,if_true];exact fQ.iw _ _ _ _ _ s hk
  ·have:adT j i=false:=by
    cases hb:adT j i
    ·rfl
    ·exact absurd (b_.1 hb) hj
   rw[this]at hk;simp only[Exit.inBlock,hj,if_false];exact fQ.ex _ _ _ _ _ _ hjP s hk
 |scope b ih =>intro cb ks Q fQ a w e h G s hk;exact zrz (ih cb ks (Exit.noGoto Q) ⟨fQ.iw,fQ.ex,fQ.ret,fQ.BQ⟩ a w e h G s hk)
 | seq c1 c2 ih1 ih2 =>
  intro cb ks Q fQ a w e h G s hk;obtain⟨ok1,ok2,bd⟩:=cb;refine wpIn_seq ?_;simp only[exec]at hk;split at hk
  ·exact ih1 ok1 { ks with iw:=exec cx (inl cx d) ⟨g,N,G0.base,d⟩ Y c2 ks } (Exit.then (c2.wpIn (FW ρ) 0 P Q) Q) ⟨fun a w e h G s hk=>ih2 ok2 ks Q fQ a w e h G s hk,fQ.ex,fQ.ret,fQ.BQ⟩ a w e h G s hk
  ·rename_i c cs dy;refine ih1 ok1 { ks with iw:=fun e h=>xd ⟨g,N,G0.base,d⟩ Y ks e h (c::cs) } (Exit.then (c2.wpIn (FW ρ) 0 P Q) Q) ⟨fun a w e h G s hk => ?_,fQ.ex,fQ.ret,fQ.BQ⟩ a w e h G s hk;obtain⟨ci,hm,hd,hB,x,hf,hk⟩:=Wn hk;obtain⟨G',s',hy⟩:=s.fit hf;have hc:=bd ci (by rw[dy];exact hm) ks x;rw[hc,hd,hB,hy]at hk;refine ih2 ok2 (uQ G0.base ci.iw ci.rH ci.mr ks) Q ⟨fun a w e h G s hk => ?_,fun i a w e h G BW s hk => ?_,fun a w e h G s hk => ?_,fun T q b a w e h G hq s hb hk => ?_⟩ _ _ _ _ _ s' hk
   ·simp only[uQ]at hk;obtain⟨sh,x',hf,hk⟩:=Lv hk;obtain⟨G',s',l8⟩:=s.fit hf;exact fQ.iw _ _ _ _ _ s' hk
   ·simp only[uQ]at hk;obtain⟨sh,x',hf,hk⟩:=uP hk;obtain⟨G',s',l8⟩:=s.fit hf;exact fQ.ex _ _ _ _ _ _ BW s' hk
   ·simp only[uQ]at hk;obtain⟨sh,x',hf,hk⟩:=Lv hk;obtain⟨G',s',l8⟩:=s.fit hf;exact fQ.ret _ _ _ _ _ s' hk
   ·simp only[uQ]at hk;obtain⟨sh,x',hf,hk⟩:=uP hk;obtain⟨G',s',l8⟩:=s.fit hf;exact fQ.BQ T q b _ _ _ _ _ hq s' hb hk
 | loop b ih =>
  intro cb ks Q fQ a w e h G s hk;obtain⟨oK,okl⟩:=cb;simp only[exec]at hk;split at hk
  ·
   generalize y0 cx g b=n at hk;refine wpIn_loop_rounds n ?_;revert a w e h G;induction n with
   |zero=>intro a w e h G s hk;simp[zX]at hk
   |succ n Wu =>intro a w e h G s hk;rw[roundsIn_succ];exact ih oK { ks with iw:=zX n fun k e h=>exec cx (inl cx d) ⟨g,N,G0.base,d⟩ Y b { ks with iw:=k } e h } (Exit.then (Code.roundsIn (FW ρ) 0 P b Q n) Q) ⟨fun a w e h G s hk=>Wu a w e h G s hk,fQ.ex,fQ.ret,fQ.BQ⟩ a w e h G s hk
  ·rename_i l ls yJ;obtain⟨li,hm,hd,hB,x,hf,hk⟩:=Wm hk;obtain⟨L,n,hL,hL0,hLs⟩:=okl li (by rw[yJ];exact hm);obtain⟨G',s',hy⟩:=s.fit hf;rw[hL]at hk;simp only at hd hB;refine wpIn_loop_rounds n ?_
   suffices Wv:∀(n:Nat)(a:Act)(w:World)(x:li.head.den),li.head.y x=Y→L n ks x=some r→∀G,Rel B0 w0 N G0 wb ρ a w (li.head.e x) (li.head.h x) G→Code.roundsIn (FW ρ) 0 P b Q n a w from Wv n a w x hy hk G' s'
   intro n;induction n with
   |zero=>intro a w x hy hk G s;rw[hL0]at hk;cases hk
   | succ n Wu =>
    intro a w x hy hk G s;rw[roundsIn_succ];rw[hLs,hd,hB,hy]at hk;refine ih oK (oY G0.base Y li.head li.rH li.mr (L n ks) ks) (Exit.then (Code.roundsIn (FW ρ) 0 P b Q n) Q) ⟨fun a w e h G s hk => ?_,fun i a w e h G BW s hk => ?_,fun a w e h G s hk => ?_,fun T q b a w e h G hq s hb hk => ?_⟩ a w _ _ G s hk
    ·simp only[oY]at hk;split at hk
     ·rename_i x' hf;obtain⟨G',s',l8⟩:=s.fit hf;exact Wu _ _ x' l8 hk _ s'
     ·cases hk
    ·simp only[oY]at hk;obtain⟨sh,x',hf,hk⟩:=uP hk;obtain⟨G',s',l8⟩:=s.fit hf;exact fQ.ex _ _ _ _ _ _ BW s' hk
    ·simp only[oY]at hk;obtain⟨sh,x',hf,hk⟩:=Lv hk;obtain⟨G',s',l8⟩:=s.fit hf;exact fQ.ret _ _ _ _ _ s' hk
    ·simp only[oY]at hk;obtain⟨sh,x',hf,hk⟩:=uP hk;obtain⟨G',s',l8⟩:=s.fit hf;exact fQ.BQ T q b _ _ _ _ _ hq s' hb hk
 |rangeFunc f ps aS b tW tX =>intro cb ks Q fQ a w e h G s hk;exact ziy hx hO hρ hY cb.2.2 fQ s hk
end
end
end Go.AM
namespace Go.AM
open Go.RowKit
section
variable {X:Type} {P:Program} {cx:Cx X} {d:Nat}
def tY(tmps:Array Value):ResultVar→Sem Value
 |.tmp t=>pure (tmps.getD t undef)
 |.cell a t=>do loadVar t (←asAddr (tmps.getD a undef))
theorem zt4{w:World}{G:GS}{ti:TI}{h:H}{pv:Value}{pa r:AV}(hp:af w G pv pa)(hl:mZ ti pa h=some r):∃ad,pv = .pointer (some ad):=by
 unfold mZ at hl;split at hl
 ·cases hp;exact⟨_,rfl⟩
 ·cases hp;exact⟨_,rfl⟩
 ·cases hl
theorem zfm(hT:fC P cx.tab){B0:Nat}{w0:Wd}{h:H}{w:World}{G:GS}(st:St B0 w0 G h w){N:Nat}{tmps:Array Value}{e:Env}(he:eN w G N tmps e) :
 ∀(rs:List ResultVar)(vs:List AV),uR cx e h rs=some vs →
  ∃us:List Value,(rs.mapM (tY tmps)).run P w = .ok us w∧ak w G us vs
 |[],vs,hk=>by simp only[uR,adK]at hk;subst hk;exact⟨[],by simp,.nil⟩
 | x :: rs,vs,hk=>by
  simp only[uR]at hk;split at hk
  ·rename_i v hv;split at hk
   ·rename_i l_ iz;simp only[adK]at hk;subst hk;obtain⟨us,h1,h2⟩:=zfm hT st he rs l_ iz;cases x with
    |tmp t =>simp only[F6,adK]at hv;subst hv;refine⟨tmps.getD t undef::us,?_,.cons (he.rep t) h2⟩;simp only[List.mapM_cons,ad8,aeK,ad0,h1,tY]
    | cell a t =>
     simp only[F6]at hv;split at hv
     ·rename_i ti gB;have hp:=he.rep a;obtain⟨u,h3,h4⟩:=zg8 (P:=P) st (hT t ti gB) hp hv;refine⟨u::us,?_,.cons h4 h2⟩;obtain⟨ad,V'⟩:=zt4 hp hv;have hl:(tY tmps (.cell a t)).run P w = .ok u w:=by simp only[tY,V'];rw[V']at h3;simpa[Instr.loadAt,Instr.sureAddr,asAddr]using h3
      simp only[List.mapM_cons,ad8,aeK,ad0,h1,hl]
     ·cases hv
   ·cases hk
  ·cases hk
theorem zr0{w:World}{G:GS}{us:List Value}{vs:List AV}(h:ak w G us vs)(v:Value)(hv:v=if hh:us.toArray.size=1 then us.toArray[0]else .tuple us.toArray):af w G v (na vs):=by
 subst hv;by_cases h1:us.length=1
 ·match us,vs,h with
  |[u],[x],h=>exact h.2 0 u x rfl rfl
  |[u],[],h=>have:=h.1;simp at this
  |[u],_::_::_,h=>have:=h.1;simp at this
  |[],_,_=>simp at h1
  |_::_::_,_,_=>simp at h1
 ·rw[dif_neg (by simpa using h1)];have:na vs = .cr vs:=by
   match vs,h with
   |[],_=>rfl
   |[x],h=>exact absurd (by simpa using h.1) h1
   |_::_::_,_=>rfl
  rw[this];exact .cr _ _ (by simpa using h.1) fun i v c hv hc=>h.2 i v c (by simpa using hv) hc
theorem zpf(hT:fC P cx.tab){B0:Nat}{w0:Wd}{h:H}{w:World}{G:GS}(st:St B0 w0 G h w){N:Nat}{tmps:Array Value}{e:Env}(he:eN w G N tmps e){fn:Func}{vs:List AV}(hk:uR cx e h fn.results.toList=some vs) :
 ∃v,(results fn tmps).run P w = .ok v w∧af w G v (na vs):=by
 obtain⟨us,h1,h2⟩:=zfm hT st he _ _ hk;refine⟨_,?_,zr0 h2 _ rfl⟩;have e:results fn tmps=(do let vs ←fn.results.mapM (tY tmps);pure (if h:vs.size=1 then vs[0]else .tuple vs)):=by unfold results;congr 2
 rw[e,Array.mapM_eq_mapM_toList];simp only[ad8,Sem.run_map,h1,ad0,aeK]
theorem zt5{B0:Nat}{w0:Wd}{w:World}{vs:List AV}{x:Value}{G:GS}{h:H}{k:List AV→H→Option X}{r:X}(s:St B0 w0 G h w)(hx:af w G x (na vs))(hk:vP vs h k=some r) :
 ∃l_ G' h',Ext G.base G G'∧St B0 w0 G' h' w∧af w G' x (na l_)∧k l_ h'=some r:=by
 have Hh:∀(hx:af w G x (.cr vs)),vs.length≠1→∃l_ G' h',Ext G.base G G'∧St B0 w0 G' h' w∧af w G' x (na l_)∧k l_ h'=some r:=fun hx c_=>by
  cases hx with
  | cr us _ hl h1 =>
   obtain⟨l_,G',h',e1,e2,e3,e4,e5⟩:=LK vs us.toList G h k r s ⟨by simpa using hl,fun i v c hv hc=>h1 i v c (by simpa using hv) hc⟩ hk;refine⟨l_,G',h',e1,e2,?_,e5⟩;have:na l_ = .cr l_:=by
    match l_,e4 with
    |[],_=>rfl
    |[a],e4=>exact absurd e4.symm c_
    |a::b::l,_=>rfl
   rw[this];exact .cr _ _ (by simpa using e3.1) fun i v c hv hc=>e3.2 i v c (by simpa using hv) hc
 match vs,hx,hk,Hh with
 |[],hx,hk,tc=>exact tc hx (by simp)
 |[a],hx,hk,_ =>simp only[vP]at hk;obtain⟨a',G1,h',e1,s1,r1,hk⟩:=LJ s hx hk;exact⟨[a'],G1,h',e1,s1,r1,hk⟩
 |a::b::l,hx,hk,tc=>exact tc hx (by simp)
theorem wE(hT:fC P cx.tab){B0:Nat}{w0:Wd}{N:Nat}{G0:GS}{wb:World}{fn:Func}{tmps:Array Value}{e:Env}{h:H}{k:AV→H→Option X}{r:X}{kp:Bool}(hk:fin cx kp fn k e h=some r){R:Ending→World→Prop}(hR:∀v w',Ends B0 w0 G0 wb k r v w'→R (.returned v) w') :
 ∀(ds:List Nat)(w:World)(G:GS),eN w G N tmps e→St B0 w0 G h w→Ext G0.base G0.nd G.nd→bg G0.D wb w→G.df=ds++G0.df→LeavesInM aeZ 0 P fn tmps R (ds.map wW) .returning w
 | [],w,G,he,st,hx,gC,hd=>by
  simp only[List.map_nil,LeavesInM,LeavesIn];unfold fin at hk;split at hk
  ·rename_i vs iz;obtain⟨v,h1,h2⟩:=zpf hT st he iz;cases kp with
   |true =>exact⟨v,h1,hR v w ⟨na vs,G,h,⟨hx.D,hx.bx,hx.tk,hx.lp,by simpa using hd⟩,gC,st,h2,hk⟩⟩
   |false =>
   rw[cond_false]at hk;obtain⟨l_,G',h',e1,CY,h2,hk⟩:=zt5 st h2 hk;have n9:=hx.trans (e1.nd.mono (jG (G0:=G0.nd) (G:=G.nd) hx));exact⟨v,h1,hR v w ⟨na l_,G',h',⟨n9.D,n9.bx,n9.tk,n9.lp,by rw[e1.df];simpa using hd⟩,gC,CY,h2,hk⟩⟩
  ·cases hk
 |d::ds,w,G,he,st,hx,gC,hd=>by simp only[aes,LeavesInM];refine⟨by simp,.inl ⟨d,w.putObj d (.deferred none),rfl,run_takeDeferred (st.gu d (by rw[hd];simp)).2,?_⟩⟩;obtain⟨CY,ik⟩:=st.DO (d:=d) (ds:=ds++G0.df) (by rw[hd];rfl);have n9:Ext G.base G.nd ({ G with df:=ds++G0.df }:GS).nd:=Ext.refl (G:=G.nd) (cF.le_refl _);refine wE hT hk hR ds _ { G with df:=ds++G0.df } (VW he n9 ik) CY hx (gC.trans hx.D ik) rfl
theorem zge{B0:Nat}{w0:Wd}{G0:GS}{wb:World}{fn:Func}{tmps:Array Value}{h:H}{k:AV→H→Option X}{r:X}{T q b:Nat}(hk:k (.cr []) h=some r)(hb:G0.bx[q]? = some (some b)∨G0.bx[q]? = some none) :
 ∀(ds:List Nat)(w:World)(G:GS),St B0 w0 G h w→Ext G0.base G0.nd G.nd→bg G0.D wb w→G.df=ds++G0.df→LeavesInM aeZ 0 P fn tmps (Ao B0 w0 T q G0 wb k r) (ds.map wW) (.panicking (sM T (.pointer (some ⟨b,0,none⟩)))) w
 |[],w,G,st,hx,gC,hd=>by simp only[List.map_nil,LeavesInM,LeavesIn];exact⟨b,G,h,rfl,hb,⟨hx.D,hx.bx,hx.tk,hx.lp,by simpa using hd⟩,gC,st,hk⟩
 |d::ds,w,G,st,hx,gC,hd=>by simp only[aes,LeavesInM];refine⟨by simp,.inl ⟨d,w.putObj d (.deferred none),rfl,run_takeDeferred (st.gu d (by rw[hd];simp)).2,?_⟩⟩;obtain⟨CY,ik⟩:=st.DO (d:=d) (ds:=ds++G0.df) (by rw[hd];rfl);exact zge hk hb ds _ { G with df:=ds++G0.df } CY hx (gC.trans hx.D ik) rfl
theorem zk0:∀(n:Nat)(l:List AV)(t:Nat),get (sB n l) t=if n≤t then(l[t - n]?).getD .any else .any
 |n,[],t=>by simp[sB,get]
 | n,v :: vs,t=>by
  simp only[sB];rw[Lw,zk0 (n+1) vs t];by_cases h:n=t
  ·subst h;simp
  ·rw[if_neg h];by_cases h2:n≤t
   ·rw[if_pos h2,if_pos (by omega)];rw[show t - n=(t - (n+1))+1 from by omega];simp
   ·rw[if_neg h2,if_neg (by omega)]
theorem zk1{w:World}{G:GS}{aj:Array Value}{aS:List AV}(h:ak w G aj.toList aS){N:Nat}(hN:aS.length≤N):eN w G N (aj++aeY (N - aj.size) undef) (sB 0 aS):=by
 have dz:aj.size=aS.length:=by simpa using h.1
 refine⟨by simp;omega,fun t => ?_⟩;rw[zk0];simp only[afr,if_true,Nat.sub_zero];cases ha:aS[t]? with
 |none=>exact .any _
 |some c =>
  have ht:t<aj.size:=by rw[dz];exact(adO.1 ha).1
  have:(aj++aeY (N - aj.size) undef).getD t undef=aj[t]:=by rw[adZ,aep ht,aef ht];rfl
  rw[this];exact h.2 t _ c (by simp[ht]) ha
theorem Ww{B0:Nat}{w0:Wd}{h:H}{w:World}{G:GS}(st:St B0 w0 G h w){N:Nat}{tmps:Array Value}{e:Env}(he:eN w G N tmps e)(ρ:Option Nat):Rel B0 w0 N G w ρ { tmps:=tmps,defers:=[] } w e h G:=⟨he,st,Ext.refl (G:=G.nd) (cF.le_refl _),bg.refl _ _,[],rfl,rfl,fun _=>rfl⟩
theorem Wx{B0:Nat}{w0:Wd}{h:H}{w:World}{G:GS}(st:St B0 w0 G h w):rC h=G.base:=by simp only[rC,GS.base,st.eb,st.fU];rw[st.fO];simp
theorem ziz{B0:Nat}{w0:Wd}(hx:a_ P (Below B0 w0.w) cx)(hO:iU P B0 w0 cx (inl cx d)){g:Nat}{args:List AV}{Y:Ys}{h:H}{k:AV→H→Option X}{r:X}(hk:DJ cx (inl cx d) d g args Y h k=some r){G:GS}{w:World}{aj:Array Value}
 (st:St B0 w0 G h w) (hY:nE cx Y G w) (ha:ak w G aj.toList args):(callFunc g aj).run P w = .ok (.enter g aj) w∧CallsIn aeZ 0 P g aj w (sN B0 w0 G w k r):=by
 unfold DJ at hk;split at hk
 ·rename_i fn tP;obtain⟨hf,n_⟩:=hx.fns g fn tP;split at hk
  ·rename_i c hb;obtain⟨hl,hk⟩:=zf hk;simp only[jZ]at hl;refine⟨?_,?_⟩
   ·simp[callFunc,run_program,hf,hb,n_]
   ·refine callsIn_of_wp_marks hf hb trivial ?_;rw[Wx st]at hk;refine Me (ρ:=none) (B0:=B0) (w0:=w0) (G0:=G) (wb:=w) (N:=fn.ntmps) hx hO (fun l h=>by cases h) hY c (hx.code g fn c tP hb) _ _ ?_ _ _ _ _ G (Ww st (zk1 ha hl) none) hk;refine⟨fun a w' e h' G' s hk => ?_,fun i a w' e h' G' _ s hk=>(by simp at hk),fun a w' e h' G' s hk => ?_,fun T q b a w' e h' G' _ s _ hk=>(by simp at hk)⟩
    ·obtain⟨ds,d1,d2,_⟩:=s.wC;simp only[bodyPostM,d1];exact wE hx.tab hk (fun v w' h=>h) ds w' G' s.env s.st s.ext s.eJ d2
    ·obtain⟨ds,d1,d2,_⟩:=s.wC;simp only[bodyPostM,d1];exact wE hx.tab hk (fun v w' h=>h) ds w' G' s.env s.st s.ext s.eJ d2
  ·cases hk
 ·cases hk
theorem zr1{B0:Nat}{w0:Wd}(hx:a_ P (Below B0 w0.w) cx)(hO:iU P B0 w0 cx (inl cx d)){g:Nat}{args:List AV}{Y:Ys}{h:H}{k:AV→H→Option X}{r:X}{T q:Nat}(hk:runT cx (inl cx d) d T q g args Y h k=some r){G:GS}{w:World}{aj:Array Value}
 (st:St B0 w0 G h w) (hY:nE cx Y G w) (ha:ak w G aj.toList args):(callFunc g aj).run P w = .ok (.enter g aj) w∧CallsIn aeZ 0 P g aj w (Ao B0 w0 T q G w k r):=by
 unfold runT at hk;split at hk
 ·rename_i fn tP;obtain⟨hf,n_⟩:=hx.fns g fn tP;split at hk
  ·rename_i c hb;obtain⟨hl,hk⟩:=zf hk;simp only[jZ]at hl;refine⟨?_,?_⟩
   ·simp[callFunc,run_program,hf,hb,n_]
   ·refine callsIn_of_wp_marks hf hb trivial ?_;rw[Wx st]at hk;refine Me (ρ:=none) (B0:=B0) (w0:=w0) (G0:=G) (wb:=w) (N:=fn.ntmps) hx hO (fun l h=>by cases h) hY c (hx.code g fn c tP hb) _ _ ?_ _ _ _ _ G (Ww st (zk1 ha hl) none) hk;refine⟨fun a w' e h' G' s hk => ?_,fun i a w' e h' G' BW s hk => ?_,fun a w' e h' G' s hk => ?_,fun T' q' b a w' e h' G' hq s hb hk => ?_⟩
    ·obtain⟨ds,d1,d2,_⟩:=s.wC;simp only[bodyPostM,d1];exact wE hx.tab hk (fun v w' h=>h) ds w' G' s.env s.st s.ext s.eJ d2
    ·have h1:=(zf hk).1;simp only[adL,b_,eV]at h1;have h2:=h1.1;unfold mJ at h2 BW;omega
    ·obtain⟨ds,d1,d2,_⟩:=s.wC;simp only[bodyPostM,d1];exact wE hx.tab hk (fun v w' h=>h) ds w' G' s.env s.st s.ext s.eJ d2
    ·obtain⟨h1,ik⟩:=zf hk;simp only[adL,b_,eV]at h1;obtain⟨rfl,rfl⟩:T'=T∧q'=q:=by have h2:=h1.1;have h3:=h1.2;unfold mJ at h2 h3 hq;omega
     obtain⟨ds,d1,d2,_⟩:=s.wC;simp only[bodyPostM,d1];exact zge ik hb ds w' G' s.st s.ext s.eJ d2
  ·cases hk
 ·cases hk
theorem zgh{w:World}{G:GS}{N:Nat}:∀(ps:List Tmp)(aS:List AV)(aj:List Value)(tmps:Array Value)(e e':Env),eN w G N tmps e→ak w G aj aS→params N e ps aS=some e' →
 ps.length=aj.length∧eN w G N ((ps.zip aj).foldl (fun tmps (p:Tmp×Value)=>tmps.setIfInBounds p.1 p.2) tmps) e'
 |[],[],aj,tmps,e,e',he,hv,h=>by simp only[params,adK]at h;subst h;have:aj=[]:=ad1 (by simpa using hv.1);subst this;exact⟨rfl,he⟩
 |[],_::_,aj,tmps,e,e',he,hv,h=>by simp[params]at h
 |_::_,[],aj,tmps,e,e',he,hv,h=>by simp[params]at h
 |p::ps,a::aS,[],tmps,e,e',he,hv,h=>by have:=hv.1;simp at this
 |p::ps,a::aS,v::aj,tmps,e,e',he,hv,h=>by simp only[params]at h;obtain⟨hp,h⟩:=zf h;simp only[eV]at hp;obtain⟨h1,h2⟩:=hv.tail;obtain⟨h3,h4⟩:=zgh ps aS aj _ _ e' (he.put hp h1) h2 h;exact⟨by simp[h3],by simpa using h4⟩
theorem zm0{B0:Nat}{w0:Wd}(hx:a_ P (Below B0 w0.w) cx)(hO:iU P B0 w0 cx (inl cx d)){j:Nat}{hd:HD}{args:List AV}{Y:Ys}{h:H}{k:AV→H→Option X}{r:X}(hk:zY cx (inl cx d) d j hd args Y h k=some r){G:GS}{w:World}{aj:Array Value}{p:sC}{rec:Loop}
 (st:St B0 w0 G h w) (hY:nE cx Y G w) (ha:ak w G aj.toList args) (hp:G.lp[j]? = some p) (cb:GZ cx G w p hd) (pT:w.heap[p.l]? = some (.loop rec)) (sO:mW rec p.st) :
 aj.size=rec.params.size∧∀fn,RoundIn aeZ 0 P p.l fn ((rec.params.zip aj).foldl (fun tmps (t,a)=>tmps.setIfInBounds t a) rec.tmps) rec.assign rec.body w (sN B0 w0 G w k r):=by
 obtain⟨N,lv,ps,aS,b,C0,p1,p2,p3,aed⟩:=cb;obtain⟨_,s2,s3,s4,s5,_⟩:=sO;unfold zY at hk;rw[C0]at hk;simp only at hk;split at hk
 ·rename_i e1 Ar;obtain⟨q1,q2⟩:=zgh ps args aj.toList _ _ _ aed ha Ar;have dz:aj.size=rec.params.size:=by
   rw[s3];have:p.st.params.toList.length=aj.toList.length:=by rw[p1];exact q1
   simpa using this.symm
  refine⟨dz,fun fn => ?_⟩;have Ak:(rec.params.zip aj).foldl (fun tmps (t,a)=>tmps.setIfInBounds t a) rec.tmps=(ps.zip aj.toList).foldl (fun tmps (p:Tmp×Value)=>tmps.setIfInBounds p.1 p.2) p.st.tmps:=by rw[s2,s3,←p1,←Array.foldl_toList,Array.toList_zip]
  rw[Ak,s4,p2,s5,p3];rw[Wx st]at hk;obtain⟨aee,oK⟩:=hx.lr _ _ _ _ _ _ _ C0;have hρ:∀l,some p.l=some l→∃(j:Nat)(p:sC),G.lp[j]? = some p∧p.l=l:=fun l hl=>⟨j,p,hp,adP hl⟩;refine roundIn_of_wpIn trivial ?_;refine Me (ρ:=some p.l) (B0:=B0) (w0:=w0) (G0:=G) (wb:=w) (N:=N) hx hO hρ hY aS aee _ _ ?_ _ _ _ _ G (Ww st q2 (some p.l)) hk;refine⟨fun a1 w1 e2 h2 G1 s hk => ?_,fun i a w' e h' G' _ s hk=>(by simp at hk),fun a w' e h' G' s hk=>(by simp at hk),fun T q b a w' e h' G' _ s _ hk=>(by simp at hk)⟩;simp only[Exit.then];simp only at hk;have yI:G1.lp[j]? = some p:=(s.ext.lp j (adO.1 hp).1).trans hp;split at hk
  ·rename_i E1;rw[zo]at E1;obtain⟨hB,tU,xL,Aw,yJ⟩:=s.st.loop j p _ yI E1;obtain⟨st2,kg⟩:=s.st.xJ (rec':={ tU with state:=.busy }) (st:=.busy) yI xL hB Aw trivial;refine⟨_,run_beginRound xL yJ.1,?_⟩;have s2':Rel B0 w0 N G w (some p.l) a1 (w1.putObj p.l (.loop { tU with state:=.busy })) e2 (jE h2 j .busy) G1:=s.step (Ext.refl (cF.le_refl _)) kg st2;refine Me (ρ:=some p.l) (B0:=B0) (w0:=w0) (G0:=G) (wb:=w) (N:=N) hx hO hρ hY b oK _ _ ?_ _ _ _ _ G1 s2' hk;have fin:∀(a:Act)(w':World)(e:Env)(h':H)(G':GS)(jump:Option Code)(ls:LS),Rel B0 w0 N G w (some p.l) a w' e h' G'→(∀rec':Loop,tB { rec' with state:=if jump.isNone then .ready else .done,pending:=jump } ls)→k (.bool jump.isNone) (jE h' j ls)=some r →
    ∃v w'',(Instr.endRound p.l jump).run P w' = .ok v w''∧Ends B0 w0 G w k r v w'':=by
    intro a w' e h' G' jump ls s yJ hk;have yI:G'.lp[j]? = some p:=(s.ext.lp j (adO.1 hp).1).trans hp;have sJ:j<h'.lp.length:=by rw[s.st.fU];exact(adO.1 yI).1
    obtain⟨hB,tU,xL,Aw,_⟩:=s.st.loop j p _ yI (adU sJ);obtain⟨st2,kg⟩:=s.st.xJ (rec':={ tU with state:=if jump.isNone then .ready else .done,pending:=jump }) (st:=ls) yI xL hB Aw (yJ tU);refine⟨_,_,run_endRound jump xL,.bool jump.isNone,G',_,⟨s.ext.D,s.ext.bx,s.ext.tk,s.ext.lp,?_⟩,s.eJ.trans s.ext.D kg,st2,.bool _,hk⟩;obtain⟨ds,d1,d2,d3⟩:=s.wC;rw[d3 (by simp)]at d2;exact d2
   refine⟨fun a w' e h' G' s hk => ?_,fun i a w' e h' G' BW s hk => ?_,fun a w' e h' G' s hk => ?_,fun T q b a w' e h' G' _ s _ hk => ?_⟩
   ·exact fin a w' e h' G' none .ready s (fun _=>⟨rfl,rfl⟩) hk
   ·exact fin a w' e h' G' (some (.exit i)) (.done (.ex i)) s (fun _=>⟨rfl,rfl⟩) (zf hk).2
   ·exact fin a w' e h' G' (some .ret) (.done .ret) s (fun _=>⟨rfl,rfl⟩) hk
   ·have:=eV.1 (zf hk).1;unfold mJ at this;omega
  ·cases hk
 ·cases hk
theorem wX{B0:Nat}{w0:Wd}(hx:a_ P (Below B0 w0.w) cx):∀d,iU P B0 w0 cx (inl cx d)
 |0=>⟨fun g args Y h k r hk=>by simp[inl]at hk,fun j hd args Y h k r hk=>by simp[inl]at hk,fun T q g args Y h k r hk=>by simp[inl]at hk⟩
 | d + 1=>⟨fun g args Y h k r hk G w aj st hY ha=>ziz hx (wX hx d) (by simpa[inl]using hk) st hY ha,
     fun j hd args Y h k r hk G w aj p rec st hY ha hp cb pT sO=>zm0 hx (wX hx d) (by simpa[inl]using hk) st hY ha hp cb pT sO,
     fun T q g args Y h k r hk G w aj st hY ha=>zr1 hx (wX hx d) (by simpa[inl]using hk) st hY ha⟩
end
end Go.AM
namespace Go.AM
open Go.RowKit
section
variable {w:World} {G:GS} {B0:Nat}
theorem zl3{a b:AV}(h:a.beq b=true)(nw:List (Option Nat)):mI nw a=(a,nw):=by cases a<;>simp_all[AV.beq,mI]
theorem zr2{τ:Ty}{c:Cap}{T N:List (Option Tk)}{tk nw:List (Option Nat)}(hi:NI B0 G w 0 T N tk nw){v:Value}{a:AV}(hv:af w { G with tk:=T } v a){l:List τ.den}{fh:List (Option Nat)}(h:F7 τ c tk a=some (l,fh)) :
 iA B0 G w 0 T N (fh,(mI nw (.sl τ l c)).2) fun F=>af w (G.cut 0 0 F) v (mI nw (.sl τ l c)).1:=by
 unfold F7 at h;split at h
 ·rename_i τ' l' c';obtain⟨hc,h⟩:=zf h;split at h
  ·rename_i l0 k7;simp only[adK,adY]at h;obtain⟨rfl,rfl⟩:=h;have e:=zks k7;unfold gW at k7;split at k7
   ·rename_i hb;have hττ:=Ty.beq_eq _ _ hb;subst hττ;simp only[adK]at k7;have k7:l'=l0:=k7;subst k7;have lN:al w G.D (.sl τ') l' [v]:=by cases hv with|sl _ _ _ _ h _=>exact h
    cases c with
    |eY =>
     have ht:(match Cap.eY,c' with|.fresh,.own t=>dF tk t none|_,_=>tk)=tk:=by cases c'<;>rfl
     simp only[mI];exact⟨T,N,hi,fq.refl _,⟨[],by simp⟩,fun F _ => .sl _ _ _ _ lN trivial⟩
    |full=>cases c'<;>simp[uS]at hc
    |own t=>cases c'<;>simp[uS]at hc
    | fresh =>
     cases c' with
     |full =>have:=LP (ks:=[]) (m:=0) (lm:=0) hi hv rfl;simp only[sr,aex]at this;simp only[mI];exact this
     |eY=>simp[uS]at hc
     |fresh=>simp[uS]at hc
     |own t =>
      simp only[uS]at hc;split at hc
      ·rename_i q hq;simp only[b_]at hc;subst hc;have:=LP (ks:=[]) (m:=0) (lm:=0) hi hv rfl;have e0:aeQ t 0=false:=rfl;simp only[sr,e0,Bool.false_and,cond_false,hq,afn,aex]at this;simp only[mI];exact this
      ·simp at hc
   ·cases k7
  ·cases h
 ·split at h
  ·simp only[adK,adY]at h;obtain⟨rfl,rfl⟩:=h;refine⟨T,N,hi,fq.refl _,⟨[],by simp⟩,fun F _ => .sl _ _ _ _ ?_ trivial⟩;cases hv;simp only[al];exact⟨by simp,none,0,[],rfl,by simp,rfl,fun h=>by simp at h⟩
  ·cases h
 ·cases h
mutual
theorem zi0:∀(s:SV)(T N:List (Option Tk))(tk nw:List (Option Nat))(v:Value)(a:AV)(x:s.den)(fh:List (Option Nat)),NI B0 G w 0 T N tk nw→af w { G with tk:=T } v a→qz s tk a=some (x,fh) →
 iA B0 G w 0 T N (fh,(mI nw (s.enc x)).2) fun F=>af w (G.cut 0 0 F) v (mI nw (s.enc x)).1
 | .int k,T,N,tk,nw,v,a,x,fh,hi,hv,h=>by
  simp only[qz]at h;split at h
  ·split at h
   ·rename_i e;subst e;simp only[adK,adY]at h;obtain⟨rfl,rfl⟩:=h;refine⟨T,N,hi,fq.refl _,⟨[],by simp⟩,fun F _ => ?_⟩;obtain⟨rfl,h2⟩:=zj hv;exact .int _ _ h2
   ·cases h
  ·cases h
 |.bool,T,N,tk,nw,v,a,x,fh,hi,hv,h=>by
  simp only[qz]at h;split at h
  ·simp only[adK,adY]at h;obtain⟨rfl,rfl⟩:=h;refine⟨T,N,hi,fq.refl _,⟨[],by simp⟩,fun F _ => ?_⟩;rw[n5 hv];exact .bool _
  ·cases h
 |.str,T,N,tk,nw,v,a,x,fh,hi,hv,h=>by
  simp only[qz]at h;split at h
  ·simp only[adK,adY]at h;obtain⟨rfl,rfl⟩:=h;refine⟨T,N,hi,fq.refl _,⟨[],by simp⟩,fun F _ => ?_⟩;obtain⟨s,rfl,h1,h2⟩:=zq hv;exact .str s _ h1 h2
  ·cases h
 | .err,T,N,tk,nw,v,a,x,fh,hi,hv,h=>by
  simp only[qz]at h;split at h
  ·simp only[adK,adY]at h;obtain⟨rfl,rfl⟩:=h;refine⟨T,N,hi,fq.refl _,⟨[],by simp⟩,fun F _ => ?_⟩;cases hv with
   |jI=>exact .jI
   |ky t x=>exact .ky t x
  ·cases h
 |.sl τ c,T,N,tk,nw,v,a,x,fh,hi,hv,h=>by simp only[qz]at h;exact zr2 hi hv h
 |.const c,T,N,tk,nw,v,a,x,fh,hi,hv,h=>by simp only[qz]at h;obtain⟨hc,h⟩:=zf h;simp only[adL]at hc;simp only[adK,adY]at h;obtain⟨_,rfl⟩:=h;have hm:mI nw ((SV.const c).enc x)=(c,nw):=zl3 hc.1 nw;rw[hm];have e:=AV.beq_eq _ _ hc.1;refine⟨T,N,hi,fq.refl _,⟨[],by simp⟩,fun F _ => ?_⟩;rw[←e]at hv;exact zqg (G:={ G with tk:=T }) (F:=F) (tm:=0) (fun i hi=>absurd hi (by omega)) hv hc.2
 | .agg vs,T,N,tk,nw,v,a,x,fh,hi,hv,h=>by
  simp only[qz]at h;split at h
  ·rename_i cs;generalize hG:({ G with tk:=T }:GS)=G1 at hv;cases hv with
   |agg us _ hl hr =>subst hG;have:=Wy vs T N tk nw us.toList cs x fh hi ⟨by simpa using hl,fun i v c hv hc=>hr i v c (by simpa using hv) hc⟩ h;simp only[SV.enc,mI];exact this.imp fun F hF => .agg _ _ (by simpa using hF.1) fun i v c hv hc=>hF.2 i v c (by simpa using hv) hc
  ·cases h
 |.fn _ _ _,T,N,tk,nw,v,a,x,fh,hi,hv,h=>by simp[qz]at h
theorem Wy : ∀(ss:List SV)(T N:List (Option Tk))(tk nw:List (Option Nat))(vs:List Value)(aS:List AV)(x:sdenL ss)(fh:List (Option Nat)),NI B0 G w 0 T N tk nw→ak w { G with tk:=T } vs aS→y1 ss tk aS=some (x,fh) →
 iA B0 G w 0 T N (fh,(yY nw (kl ss x)).2) fun F=>ak w (G.cut 0 0 F) vs (yY nw (kl ss x)).1
 |[],T,N,tk,nw,vs,aS,x,fh,hi,hv,h=>by
  simp only[y1]at h;split at h
  ·simp only[adK,adY]at h;obtain⟨_,rfl⟩:=h;have:vs=[]:=ad1 (by simpa using hv.1);subst this;exact⟨T,N,hi,fq.refl _,⟨[],by simp⟩,fun F _ => .nil⟩
  ·cases h
 | s :: ss,T,N,tk,nw,vs,aS,x,fh,hi,hv,h=>by
  simp only[y1]at h;split at h
  ·rename_i c cs;split at h
   ·rename_i y hy;split at h
    ·rename_i z hz;simp only[adK,adY]at h;obtain⟨rfl,rfl⟩:=h
     match vs,hv with
     |[],hv=>have:=hv.1;simp at this
     |v::vs,hv =>obtain⟨h1,h2⟩:=hv.tail;have r1:=zi0 s T N tk nw v c y.1 y.2 hi h1 hy;simp only[kl,yY];exact r1.bind (fun T' N' uV nD=>Wy ss T' N' y.2 _ vs cs z.1 z.2 uV ⟨h2.1,fun i v c a b=>LN nD (h2.2 i v c a b)⟩ hz) (fun F a b => .cons a b)
    ·cases h
   ·cases h
  ·cases h
end
end
theorem zw7{w:World}{G:GS}{D:Nat→Nat→Prop}{w':World}(rv:RV){h:H}(st:St w.heap.size ⟨w,D⟩ G h w')(hD:∀b o,D b o→G.D b o){v:Value}{a:AV}(hv:af w' G v a){x:rv.den}(hx:rv.dec h.tk a=some x):hK D w (rv.enc x) v w':=by
 have hi:NI w.heap.size G w' 0 G.tk [] h.tk []:=⟨st.fO,rfl,fq.refl _,⟨fun t g hg=>st.tok t g (by simpa using hg),fun t t' g g' h1 h2=>st.gA t t' g g' (by simpa using h1) (by simpa using h2)⟩⟩
 have fin:∀(e:AV)(fh:List (Option Nat)),(iA w.heap.size G w' 0 G.tk [] (fh,(mI [] e).2) fun F=>af w' (G.cut 0 0 F) v (mI [] e).1)→hK D w e v w':=by
  intro e fh hs;obtain⟨T,N,hni,_,_,hF⟩:=hs;refine⟨{ D:=G.D,bx:=[],tk:=N,lp:=[],df:=[],bv:=G.bv },rfl,hD,?_,?_⟩
  ·have tok:=hni.tok;exact
   { below:=st.below
     b0:=st.b0
     eb:=rfl
     box:=fun r b cs h1 h2=>by simp at h1
     fl:=fun r cs h1 h2=>by simp at h1
     inj:=fun r r' b h1 h2=>by simp at h1
     ec:=fun b o hb=>⟨(st.ec b o hb).1,by simp⟩
     fo:=st.fo
     fO:=hni.hN
     tok:=fun t g ht=>by obtain⟨h1,h2⟩:=tok.tok (T.length+t) g (by rw[adW (by omega),show T.length+t - T.length=t from by omega];exact ht);refine⟨h1,fun hl => ?_⟩;obtain⟨b,hA,hB,hn,rest⟩:=h2 hl;exact⟨b,hA,hB,by simp,rest⟩
     gA:=fun t t' g g' h1 h2 c_=>tok.gA (T.length+t) (T.length+t') g g' (by rw[adW (by omega),show T.length+t - T.length=t from by omega];exact h1)
      (by rw[adW (by omega),show T.length+t' - T.length=t' from by omega];exact h2) (by omega)
     fU:=rfl
     loop:=fun j p s h1 h2=>by simp at h1
     ie:=fun j j' p p' h1 h2=>by simp at h1
     gu:=fun d hd=>by simp at hd
     ig:=by simp }
  ·have:=hF N ⟨fun i hi=>absurd hi (by omega),fun p _ => .inl (by rw[aex])⟩;exact L1 (G:=G.cut 0 0 N) (G1:={ D:=G.D,bx:=[],tk:=N,lp:=[],df:=[],bv:=G.bv }) rfl (by simp[GS.cut]) rfl (by simp[GS.cut]) rfl this
 cases rv with
 |one s =>
  simp only[RV.dec]at hx;split at hx
  ·rename_i y hy;simp only[adK]at hx;subst hx;exact fin _ _ (zi0 s G.tk [] h.tk [] v a y.1 y.2 hi hv hy)
  ·cases hx
 | many ss =>
  simp only[RV.dec]at hx;split at hx
  ·rename_i cs;split at hx
   ·rename_i y hy;simp only[adK]at hx;subst hx;cases hv with
    |cr us _ hl hr =>have:=Wy ss G.tk [] h.tk [] us.toList cs y.1 y.2 hi ⟨by simpa using hl,fun i v c hv hc=>hr i v c (by simpa using hv) hc⟩ hy;refine fin _ y.2 ?_;simp only[RV.enc,mI];exact this.imp fun F hF => .cr _ _ (by simpa using hF.1) fun i v c hv hc=>hF.2 i v c (by simpa using hv) hc
   ·cases hx
  ·cases hx
theorem zm1{P:Program}{rv:RV}{cx:Cx rv.den}{W:World→Prop}(gQ:∀w w',W w→Below w.heap.size w w'→W w')(tO:a_ P W cx){d:Nat}{g:Nat}{args:List AV}{x:rv.den}(hk:closed rv cx d g args=some x){w:World}{D:Nat→Nat→Prop}{aj:Array Value}(hw:W w)
 (ha:ak w ⟨D,[],[],[],[],rI⟩ aj.toList args) (hc:∀b o,D b o→∃u,w.cell? ⟨b,o,none⟩=some u):my P g aj w (hK D w (rv.enc x)):=by
 have st:St w.heap.size ⟨w,D⟩ ⟨D,[],[],[],[],rI⟩ ⟨[],[],[]⟩ w:=
  { below:=aea _ _
    b0:=ael _
    eb:=rfl
    box:=fun r b cs h1 h2=>by simp at h1
    fl:=fun r cs h1 h2=>by simp at h1
    inj:=fun r r' b h1 h2=>by simp at h1
    ec:=fun b o hb=>⟨hc b o hb,by simp⟩
    fo:=fun b o hb => .inl hb
    fO:=rfl
    tok:=fun t g ht=>by simp at ht
    gA:=fun t t' g g' h1 h2=>by simp at h1
    fU:=rfl
    loop:=fun j p s h1 h2=>by simp at h1
    ie:=fun j j' p p' h1 h2=>by simp at h1
    gu:=fun d hd=>by simp at hd
    ig:=by simp }
 have hx:a_ P (Below w.heap.size (⟨w,D⟩:Wd).w) cx:={ tO with C:=⟨fun g iY h args en y h1 h2 w' D' aj hb=>tO.C.1 g iY h args en y h1 h2 w' D' aj (gQ w w' hw hb),fun g p h=>(tO.C.2 g p h).mono fun w' hb=>gQ w w' hw hb⟩ };unfold closed at hk;obtain⟨h1,h2⟩:=ziz hx (wX hx d) hk st (fun j hd hl=>by simp[xc]at hl) ha;refine .inl ⟨h1,CallsIn.mono h2 fun e w' hR => ?_⟩;cases e with
 |panicked ch=>exact hR.elim
 |outgrown=>exact hR.elim
 |returned v =>obtain⟨av,G',h',C1,Wt,Hf,hvE,ph⟩:=hR;exact zw7 rv Hf C1.D hvE ph
end Go.AM
namespace Go.AM
def Ax:Value→AV→Bool
 |_,.any=>true
 |.int k n,.int k' m=>decide (k=k')&&decide (n=m)&&(decide (k ≠ .u8)||(decide (0≤n)&&decide (n<256)))
 |.bool b,.bool c=>b==c
 |.string s,.str []=>s.data.toList.isEmpty
 |.slice none 0 0,.fe=>true
 |.slice none 0 0,.sl _ [] .full=>true
 |.pointer none,.fX=>true
 |.nilFunc,.bl=>true
 |.nilIface,.err false=>true
 |_,_=>false
def oL:List Value→List AV→Bool
 |[],[]=>true
 |v::vs,a::aS=>Ax v a&&oL vs aS
 |_,_=>false
theorem zr3{w:World}{G:GS}{v:Value}{a:AV}(h:Ax v a=true):af w G v a:=by
 unfold Ax at h;split at h
 ·exact .any _
 ·simp only[adL,aem,decide_eq_true_eq]at h;obtain⟨⟨rfl,rfl⟩,h⟩:=h
  exact .int _ _ fun e=>by
   rcases h with h|h
   ·exact absurd e h
   ·exact h
 ·simp only[beq_iff_eq]at h;subst h;exact .bool _
 ·rename_i s;exact .str s [] (by simpa using h) (by simp)
 ·exact .fe
 ·rename_i τ;have h2:af w G (.slice none 0 0) (kf (some (.sl τ)) .fe):=iZ .fe _;exact h2
 ·exact .fX
 ·exact .bl
 ·exact .jI
 ·cases h
theorem zhh{w:World}{G:GS}:∀{vs:List Value}{aS:List AV},oL vs aS=true→ak w G vs aS
 |[],[],_ => .nil
 |v::vs,a::aS,h=>by simp only[oL,adL]at h;exact .cons (zr3 h.1) (zhh h.2)
 |[],_::_,h=>by simp[oL]at h
 |_::_,[],h=>by simp[oL]at h
def mX(P:Program):List Field→List (Nat×Nat)→Bool
 |[],[]=>true
 |f::fs,(o,t)::r=>adT f.offset o&&adT f.type t&&(P.info? f.type).isSome&&mX P fs r
 |_,_=>false
theorem zfn{P:Program}:∀{fs:List Field}{r:List (Nat×Nat)},mX P fs r=true→fs.map (fun f=>(f.offset,f.type))=r∧∀f∈fs,∃i,P.info? f.type=some i
 |[],[],_=>⟨rfl,fun f h=>by simp at h⟩
 |f::fs,(o,t)::r,h=>by
  simp only[mX,adL,b_]at h;obtain⟨⟨⟨h1,h2⟩,h3⟩,h4⟩:=h;obtain⟨h5,h6⟩:=zfn h4;refine⟨by simp[h1,h2,h5],fun g hg => ?_⟩;rcases adR.1 hg with rfl|hg
  ·exact Option.isSome_iff_exists.1 h3
  ·exact h6 g hg
 |[],_::_,h=>by simp[mX]at h
 |_::_,[],h=>by simp[mX]at h
def pU(P:Program)(d:TypeDesc):TD→Bool
 |.int k=>match d with |.int k'=>decide (k'=k) |_=>false
 |.bool=>match d with |.bool=>true |_=>false
 |.str=>match d with |.string=>true |_=>false
 |.slice e=>match d with |.slice e'=>adT e' e |_=>false
 |.arr n e=>match d with |.array n' e'=>adT n' n&&adT e' e |_=>false
 |.struct fs=>match d with |.struct fields=>mX P fields.toList fs |_=>false
 |.ptr=>match d with |.pointer _=>true |_=>false
 |.func=>match d with |.func _ _ _=>true |_=>false
 |.iface=>match d with |.interface _=>true |_=>false
 |.other=>true
 |.map k e=>match d with |.map k' e'=>adT k' k&&adT e' e |_=>false
def lQ:Option TypeDesc→Nat
 |some (.int _)=>1
 |some .bool=>2
 |some .string=>3
 |_=>0
def jS(P:Program):List Field→List AV→Nat→Bool
 |[],[],_=>true
 | f :: fs, z :: zs, off => adT f.offset off && f.name != "_" && adT (lQ (P.underlying f.type)) (qv z) && !Nat.beq (qv z) 0 && jS P fs zs (off + 1)
 |_,_,_=>false
def Hi(P:Program)(t:Nat)(d:TypeDesc)(zs:List AV):Bool:=match d with
 |.struct fs => !P.eqGuardType P.depth t && !P.stoodInHeld t&&jS P fs.toList zs 0
 |_=>false
theorem zm2{P:Program}{t:TypeId}(ht:lQ (P.underlying t)≠0){cs:Array Value}{off:Nat}{v:Value}(h:cs[off]? = some v)(w:World):(part t cs off).run P w = .ok v w:=by
 cases hd:P.underlying t with
 |none=>rw[hd]at ht;exact absurd rfl ht
 |some d =>
  have ha:(isAgg t).run P w = .ok false w:=by unfold isAgg;simp only[ad8,run_underlying hd,ad0];rw[hd]at ht;cases d<;>simp[lQ]at ht<;>rfl
  unfold part;simp only[ad8,ha,ad0,Bool.false_eq_true,if_false,h,aeK]
theorem zt6{P:Program}{t:TypeId}{w:World}{G:GS}{x y:Value}{a b:AV}{c:Bool}(ht:lQ (P.underlying t)=qv a)(hx:af w G x a)(hy:af w G y b)(h:Lu a b=some c)(d:Nat) :
 (Op.equalIn (d+1) t x y).run P w = .ok c w:=by
 unfold Lu at h;split at h
 ·split at h
  ·rename_i e;subst e;simp only[adK]at h;subst h;obtain⟨rfl,_⟩:=zj hx;obtain⟨rfl,_⟩:=zj hy;cases hd:P.underlying t with
   |none=>rw[hd]at ht;cases ht
   |some dd =>rw[hd]at ht;cases dd<;>simp[lQ,qv]at ht;exact run_equalIn_int _ _ _ _ _ _ _ hd
  ·cases h
 ·simp only[adK]at h;subst h;obtain⟨s,rfl,h1,_⟩:=zq hx;obtain⟨s',rfl,qc,_⟩:=zq hy;cases hd:P.underlying t with
  |none=>rw[hd]at ht;cases ht
  |some dd =>rw[hd]at ht;cases dd<;>simp[lQ,qv]at ht;rw[run_equalIn_string _ _ _ _ _ hd,ByteArray.toList_eq,ByteArray.toList_eq,h1,qc]
 ·simp only[adK]at h;subst h;rw[n5 hx,n5 hy];cases hd:P.underlying t with
  |none=>rw[hd]at ht;cases ht
  |some dd =>rw[hd]at ht;cases dd<;>simp[lQ,qv]at ht;exact run_equalIn_bool _ _ _ _ _ hd
 ·cases h
theorem zpg{P:Program}{w:World}{G:GS}{xs ys:Array Value}(d:Nat):∀(fs:List Field)(zs:List AV)(off:Nat)(aS bs:List AV)(c:Bool),jS P fs zs off=true→mF aS zs=true→ak w G (xs.toList.drop off) aS→ak w G (ys.toList.drop off) bs→zR aS bs=some c →
 (aeN (d+1) xs ys fs).run P w = .ok c w:=by
 intro fs;induction fs with
 |nil =>
  intro zs off aS bs c hf hl hx hy h;cases zs with
  |cons _ _=>simp[jS]at hf
  |nil =>
  cases aS with
  |cons _ _=>simp[mF]at hl
  |nil =>
  cases bs with
  |nil=>simp[zR]at h;subst h;simp[aeN]
  |cons _ _=>simp[zR]at h
 | cons f fs ih =>
  intro zs off aS bs c hf hl hx hy h;cases zs with
  |nil=>simp[jS]at hf
  |cons z zs =>
  cases aS with
  |nil=>simp[mF]at hl
  | cons a aS =>
   simp only[jS,adL,b_,bne_iff_ne,ne_eq,aeu]at hf;obtain⟨⟨⟨⟨h1,h2⟩,h3a⟩,h3b⟩,h4⟩:=hf;simp only[mF,adL,b_]at hl;have h3:lQ (P.underlying f.type)≠0:=by intro e;rw[←h3a,e]at h3b;cases h3b
   cases bs with
   |nil=>simp[zR]at h
   | cons b bs =>
    obtain⟨xv,l7⟩:∃xv,xs[off]? = some xv:=by have:=hx.1;simp only[List.length_drop,aeb,aek]at this;exact⟨xs[off]'(by omega),by simp⟩
    obtain⟨yv,Gx⟩:∃yv,ys[off]? = some yv:=by have:=hy.1;simp only[List.length_drop,aeb,aek]at this;exact⟨ys[off]'(by omega),by simp⟩
    have e1:xs.toList.drop off=xv::xs.toList.drop (off+1):=by
     have bo:off<xs.toList.length:=by simpa using (adS.1 l7).1
     rw[List.drop_eq_getElem_cons bo];congr 1;have:=(adS.1 l7).2;simpa using this
    have e2:ys.toList.drop off=yv::ys.toList.drop (off+1):=by
     have bo:off<ys.toList.length:=by simpa using (adS.1 Gx).1
     rw[List.drop_eq_getElem_cons bo];congr 1;have:=(adS.1 Gx).2;simpa using this
    rw[e1]at hx;rw[e2]at hy;obtain⟨oJ,BX⟩:=hx.tail;obtain⟨xM,gV⟩:=hy.tail;simp only[zR]at h;have step:∀x,Lu a b=some x→(aeN (d+1) xs ys (f::fs)).run P w=(if(!x)=true then(pure false:Sem Bool)else aeN (d+1) xs ys fs).run P w:=by intro x eW;simp only[aeN,ne_eq,h2,not_false_eq_true,if_true,ad8,h1,zm2 h3 l7,zm2 h3 Gx,ad0,zt6 (h3a.trans hl.1.symm) oJ xM eW]
    split at h
    ·rename_i x heq;split at h
     ·have hz:zs=[]:=by cases zs with|nil=>rfl|cons _ _=>simp[mF]at hl
      subst hz;have y7:fs=[]:=by cases fs with|nil=>rfl|cons _ _=>simp[jS]at h4
      subst y7;rw[step x heq];simp only[adK]at h;subst h;cases x<;>simp[aeN]
     ·cases h
    ·rename_i x heq _;split at h
     ·rename_i y l8;simp only[adK]at h;subst h;rw[step x heq];cases x
      ·simp
      ·simp only[Bool.not_true,Bool.false_eq_true,if_false,Bool.true_and];exact ih zs (off+1) _ _ y h4 hl.2 BX gV l8
     ·cases h
    ·cases h
theorem z3w{P:Program}{t:TypeId}{d:TypeDesc}(hd:P.underlying t=some d){zs:List AV}(h:Hi P t d zs=true):P.eqGuardType P.depth t=false∧∀(w:World)(G:GS)(xs ys:Array Value)(aS bs:List AV)(c:Bool),mF aS zs=true→ak w G xs.toList aS→ak w G ys.toList bs→zR aS bs=some c →
 (Op.equal t (.agg xs) (.agg ys)).run P w = .ok c w:=by
 unfold Hi at h;split at h
 ·rename_i fs;simp only[adL,aeu]at h;obtain⟨⟨h1,h2⟩,h3⟩:=h;refine⟨h1,fun w G xs ys aS bs c hl hx hy he => ?_⟩;have hf:P.fieldsOf t=fs:=by simp[Program.fieldsOf,hd]
  simp only[Op.equal,Op.maxDepth];rw[run_equalIn_struct w 9999 t xs ys (by rw[hf];exact hd) h2,hf];exact zpg 9998 fs.toList zs 0 aS bs c h3 hl hx hy he
 ·cases h
def DR(P:Program)(t:Nat)(ti:TI):Bool:=
 match P.info? t,P.underlying t with
 |some i,some d=>adT i.size ti.size&&adT i.bytes ti.bytes&&(match i.zero with
  |some z=>ti.zero.isEmpty||oL z.cells.toList ti.zero
  |none=>ti.zero.isEmpty)&&(ti.agg==BC d)&&pU P d ti.d&&(!ti.cmp||Hi P t d ti.zero)
 |_,_=>false
theorem zt7{P:Program}{t:Nat}{d:TypeDesc}(hu:P.underlying t=some d){x:TD}(h:pU P d x=true):F_ P t x:=by
 cases x with
 |struct fs =>
  simp only[pU]at h;split at h
  ·rename_i fields;obtain⟨h1,h2⟩:=zfn h;exact⟨fields,hu,h1,h2⟩
  ·cases h
 |int k =>
  simp only[pU]at h;split at h
  ·simp only[decide_eq_true_eq]at h;subst h;exact hu
  ·cases h
 |bool =>
  simp only[pU]at h;split at h
  ·exact hu
  ·cases h
 |str =>
  simp only[pU]at h;split at h
  ·exact hu
  ·cases h
 |slice e =>
  simp only[pU]at h;split at h
  ·simp only[b_]at h;subst h;exact hu
  ·cases h
 |arr n e =>
  simp only[pU]at h;split at h
  ·simp only[b_,adL]at h;obtain⟨rfl,rfl⟩:=h;exact hu
  ·cases h
 |map k e =>
  simp only[pU]at h;split at h
  ·simp only[b_,adL]at h;obtain⟨rfl,rfl⟩:=h;exact hu
  ·cases h
 |ptr =>
  simp only[pU]at h;split at h
  ·exact⟨_,hu⟩
  ·cases h
 |func =>
  simp only[pU]at h;split at h
  ·exact⟨_,_,_,hu⟩
  ·cases h
 |iface =>
  simp only[pU]at h;split at h
  ·exact⟨_,hu⟩
  ·cases h
 |other=>trivial
theorem zt8{P:Program}{t:Nat}{ti:TI}(h:DR P t ti=true):nc P t ti:=by
 unfold DR at h;split at h
 ·rename_i i d hi hd;simp only[adL,b_,aeu]at h;obtain⟨⟨⟨⟨⟨h1,h2⟩,h3⟩,h4⟩,h5⟩,h6⟩:=h;refine⟨⟨i,hi,h1,h2,fun hz => ?_⟩,⟨d,hd,by simpa using h4⟩,zt7 hd h5,fun hc => ?_⟩
  rotate_left
  ·rw[hc]at h6;simp only[Bool.not_true,Bool.false_or]at h6;exact z3w hd h6
  split at h3
  ·rename_i z CG;simp only[aem,aeO]at h3;rcases h3 with h3|h3
   ·exact absurd h3 hz
   ·exact⟨z,CG,fun w G=>zhh h3⟩
  ·rw[aeO]at h3;exact absurd h3 hz
 ·cases h
inductive Tree (α:Type) where
 |nil |one (k:Nat) (a:α) |node (k:Nat) (l r:Tree α)
def Tree.get{α:Type}:Tree α→Nat→Option α
 |.nil,_=>none
 |.one k a,t=>bif adT k t then some a else none
 |.node k l r,t=>bif aeQ t k then l.get t else r.get t
def Tree.all{α:Type}(p:Nat→α→Bool):Tree α→Bool
 |.nil=>true
 |.one k a=>p k a
 |.node _ l r=>l.all p&&r.all p
theorem Tree.xN{α:Type}{p:Nat→α→Bool}:∀{T:Tree α}{t:Nat}{a:α},T.all p=true→T.get t=some a→p t a=true
 |.nil,t,a,_,h=>by simp[Tree.get]at h
 |.one k b,t,a,hp,h=>by simp only[Tree.get]at h;obtain⟨h1,h2⟩:=zf h;obtain rfl:=b_.1 h1;obtain rfl:=adP h2;exact hp
 |.node k l r,t,a,hp,h=>by
  simp only[Tree.all,adL]at hp;simp only[Tree.get]at h;cases hb:aeQ t k with
  |true=>rw[hb]at h;exact Tree.xN hp.1 h
  |false=>rw[hb]at h;exact Tree.xN hp.2 h
theorem Wz{P:Program}{T:Tree TI}(h:T.all (DR P)=true):fC P T.get:=fun t ti ht=>zt8 (Tree.xN h ht)
end Go.AM
namespace Go.AM
open Go.RowKit
def fw:Code→List Code
 |.seq a b=>fw a++fw b
 |.cond _ a b=>fw a++fw b
 |.block _ b=>fw b
 |.scope b=>fw b
 |.loop b=>b::fw b
 |.rangeFunc _ _ a b=>fw a++fw b
 |_=>[]
def gY:Code→List Code
 |.seq a b=>b::(gY a++gY b)
 |.cond _ a b=>gY a++gY b
 |.block _ b=>gY b
 |.scope b=>gY b
 |.loop b=>gY b
 |.rangeFunc _ _ a b=>gY a++gY b
 |_=>[]
def gi:Code→List (Option Nat×List Nat×Code×Code)
 |.seq a b=>gi a++gi b
 |.cond _ a b=>gi a++gi b
 |.block _ b=>gi b
 |.scope b=>gi b
 |.loop b=>gi b
 |.rangeFunc _ ps a b=>((match oz a with |some i=>some i |none=>oz b),ps.toList,a,b)::(gi a++gi b)
 |_=>[]
def fI:Code→List (Nat×Array Oper)
 |.seq a b=>fI a++fI b
 |.cond _ a b=>fI a++fI b
 |.block _ b=>fI b
 |.scope b=>fI b
 |.loop b=>fI b
 |.rangeFunc _ _ a b=>fI a++fI b
 |.region i ops dr=>bif dr then[(i,ops)]else[]
 |_=>[]
def pV{α:Type}(p:α→Prop):List α→Prop
 |[]=>True
 |a::l=>p a∧pV p l
theorem zD{α:Type}{p:α→Prop}:∀{l:List α},pV p l→∀x∈l,p x
 |[],_,x,h=>by simp at h
 |a::l,hp,x,h=>by
  rcases adR.1 h with rfl|h
  ·exact hp.1
  ·exact zD hp.2 x h
theorem zt9{X:Type}{cx:Cx X}{g N:Nat}:∀(c:Code),(∀q∈fI c,lJ cx.tab q.2 (cx.conf g q.1) (sP q.2.toList [])=true)→(∀b∈fw c,∀li∈m_ cx g b,nN cx g N b li) →
 (∀b∈gY c,∀ci∈rB cx g b,xK cx g N b ci)→(∀q∈gi c,∀i,q.1=some i→∃lv,cx.lr g i=some (N,lv,q.2))→lA cx g N c:=by
 intro c;induction c with
 |seq a b tW tX =>intro hd hl hc hr;simp only[fI,fw,gY,gi,ad3,adR]at hd hl hc hr;exact⟨tW (fun q h=>hd q (.inl h)) (fun q h=>hl q (.inl h)) (fun q h=>hc q (.inr (.inl h))) (fun q h=>hr q (.inl h)),tX (fun q h=>hd q (.inr h)) (fun q h=>hl q (.inr h)) (fun q h=>hc q (.inr (.inr h))) (fun q h=>hr q (.inr h)),hc b (.inl rfl)⟩
 |cond x a b tW tX =>intro hd hl hc hr;simp only[fI,fw,gY,gi,ad3]at hd hl hc hr;exact⟨tW (fun q h=>hd q (.inl h)) (fun q h=>hl q (.inl h)) (fun q h=>hc q (.inl h)) (fun q h=>hr q (.inl h)),tX (fun q h=>hd q (.inr h)) (fun q h=>hl q (.inr h)) (fun q h=>hc q (.inr h)) (fun q h=>hr q (.inr h))⟩
 |block i b ih=>exact fun hd hl hc hr=>ih hd hl hc hr
 |scope b ih=>exact fun hd hl hc hr=>ih hd hl hc hr
 |loop b ih =>intro hd hl hc hr;simp only[fw,adR]at hl;exact⟨ih hd (fun q h=>hl q (.inr h)) hc hr,hl b (.inl rfl)⟩
 |rangeFunc f ps a b tW tX =>intro hd hl hc hr;simp only[fI,fw,gY,gi,ad3,adR]at hd hl hc hr;exact⟨tW (fun q h=>hd q (.inl h)) (fun q h=>hl q (.inl h)) (fun q h=>hc q (.inl h)) (fun q h=>hr q (.inr (.inl h))),tX (fun q h=>hd q (.inr h)) (fun q h=>hl q (.inr h)) (fun q h=>hc q (.inr h)) (fun q h=>hr q (.inr (.inr h))),fun i hi=>hr _ (.inl rfl) i hi⟩
 |region i ops dr =>intro hd hl hc hr;intro e;subst e;exact hd (i,ops) (by simp[fI])
 |_=>intros;trivial
theorem zw8{X:Type}{cx:Cx X}{g N:Nat}:∀(c:Code),lA cx g N c→∀q∈gi c,lA cx g N q.2.2.1∧lA cx g N q.2.2.2:=by
 intro c;induction c with
 |seq a b tW tX =>intro h q hq;simp only[gi,ad3]at hq;exact hq.elim (tW h.1 q) (tX h.2.1 q)
 |cond x a b tW tX =>intro h q hq;simp only[gi,ad3]at hq;exact hq.elim (tW h.1 q) (tX h.2 q)
 |block i b ih=>exact fun h q hq=>ih h q hq
 |scope b ih=>exact fun h q hq=>ih h q hq
 |loop b ih=>exact fun h q hq=>ih h.1 q hq
 |rangeFunc f ps a b tW tX =>
  intro h q hq;simp only[gi,adR,ad3]at hq;rcases hq with rfl|hq|hq
  ·exact⟨h.1,h.2.1⟩
  ·exact tW h.1 q hq
  ·exact tX h.2.1 q hq
 |_=>intro h q hq;simp[gi]at hq
noncomputable def Mf(f:Func)(k:Nat):Code:=(nth (fw (f.body.getD .skip)) k).getD .skip
noncomputable def tZ(f:Func)(k:Nat):List Nat×Code×Code:=((nth (gi (f.body.getD .skip)) k).getD (none,[],.skip,.skip)).2
theorem aeo{X:Type}{cx:Cx X}{g N:Nat}{f:Func}(h:lA cx g N (f.body.getD .skip))(k:Nat):lA cx g N (tZ f k).2.1∧lA cx g N (tZ f k).2.2:=by
 unfold tZ;cases hq:nth (gi (f.body.getD .skip)) k with
 |none=>exact⟨trivial,trivial⟩
 |some q =>rw[zo]at hq;exact zw8 _ h q (aei hq)
noncomputable def C2(ps:List SV)(rv:RV)(F:sdenL ps→Option rv.den):List AV→Option Entry:=fun args=>match oW ps args with
 |some x=>some ⟨rv.den,F x,rv.enc⟩
 |none=>none
def kI(P:Program)(W:World→Prop)(g:Nat)(ps:List SV)(rv:RV)(F:sdenL ps→Option rv.den):Prop:=
 ∀(x:sdenL ps)(y:rv.den),F x=some y→∀(w:World)(D:Nat→Nat→Prop)(aj:Array Value),W w→ak w ⟨D,[],[],[],[],rI⟩ aj.toList (kl ps x)→(∀b o,D b o→∃u,w.cell? ⟨b,o,none⟩=some u)→my P g aj w (hK D w (rv.enc y))
theorem zb{P:Program}{W:World→Prop}{g:Nat}{ps:List SV}{rv:RV}{F:sdenL ps→Option rv.den}(h:kI P W g ps rv F):mc P W g (C2 ps rv F):=by
 intro args en y Al hy w D aj hw ha hc;unfold C2 at Al;split at Al
 ·rename_i x hx;simp only[adK]at Al;subst Al;have:=uY ps args x hx;rw[←this]at ha;exact h x y hy w D aj hw ha hc
 ·cases Al
theorem zg{P:Program}{W:World→Prop}(gQ:∀w w',W w→Below w.heap.size w w'→W w'){g d:Nat}{ps:List SV}{rv:RV}{F:sdenL ps→Option rv.den}{cx:Cx rv.den}(hx:a_ P W cx)(he:∀x,closed rv cx d g (kl ps x)=F x):kI P W g ps rv F:=fun x y hy w D aj hw ha hc=>zm1 gQ hx (d:=d) (by rw[he x];exact hy) hw ha hc
def cg(I:World→Prop)(w:World):Prop:=∃w0,I w0∧w0.heap.size≤w.heap.size∧Below w0.heap.size w0 w
theorem cg.st{I:World→Prop}:∀w w',cg I w→Below w.heap.size w w'→cg I w':=fun w w' ⟨w0,h1,h2,h3⟩ hb=>⟨w0,h1,Nat.le_trans h2 hb.size,h3.trans (hb.mono h2)⟩
theorem cg.of{I:World→Prop}{w:World}(h:I w):cg I w:=⟨w,h,ael _,aea _ _⟩
end Go.AM
namespace Go.AM
open Go.RowKit Go.WideShapes Go.ChangeShapes
def reach:Nat:=140737488351232
mutual
def wF:(τ:Ty)→τ.den→Prop
 |.u8,_=>True
 |.iX _,_=>True
 |.int k,n=>k.min≤n∧n≤k.max
 |.bool,_=>True
 |.str,s=>s.length≤reach
 |.sl e,l=>l.length≤reach∧∀x∈l,wF e x
 |.agg ts,x=>C3 ts x
def C3:(ts:List Ty)→denL ts→Prop
 |[],_=>True
 |[t],x=>wF t x
 |t::u::us,(x,y)=>wF t x∧C3 (u::us) y
end
def u6:(t:Ty)→(ts:List Ty)→t.den→denL ts→denL (t::ts)
 |_,[],x,_=>x
 |_,_::_,x,y=>(x,y)
theorem zk2{w:World}{D:Nat→Nat→Prop}{t:Ty}{ts:List Ty}{x:t.den}{y:denL ts}{v1 v2:List Value}(h:al w D t x v1)(k:eU w D ts y v2):eU w D (t::ts) (u6 t ts x y) (v1++v2):=by
 cases ts with
 |nil =>simp only[eU]at k;subst k;simpa[eU,u6]using h
 |cons u us=>exact⟨v1,v2,rfl,h,k⟩
theorem zm3{t:Ty}{ts:List Ty}{x:t.den}{y:denL ts}(h:wF t x)(k:C3 ts y):C3 (t::ts) (u6 t ts x y):=by
 cases ts with
 |nil=>simpa[C3,u6]using h
 |cons u us=>exact⟨h,k⟩
mutual
def qH(P:Program):Nat→TypeId→Ty→Bool
 |0,_,_=>false
 |n+1,t,τ=>match τ,P.underlying t with
  |.u8,some (.int .u8)=>true
  |.int k,some (.int k')=>decide (k=k')&&decide (k ≠ .u8)
  |.bool,some .bool=>true
  |.str,some .string=>true
  |.sl e,some (.slice e')=>qH P n e' e&&adT (P.cellsOf e') e.size&&decide (0<P.bytesOf e')&&decide (0<e.size)
  |.agg ts,some (.struct fs)=>u7 P n fs.toList ts 0&&adT (P.cellsOf t) (lq ts)
  |.agg ts,some (.array k e)=>adT (P.cellsOf t) (lq ts)&&adT ts.length k&&Ay P n e ts
  |_,_=>false
def u7(P:Program):Nat→List Field→List Ty→Nat→Bool
 |_,[],[],_=>true
 |n,f::fs,t::ts,off=>qH P n f.type t&&adT f.offset off&&adT (P.cellsOf f.type) t.size&&u7 P n fs ts (off+t.size)
 |_,_,_,_=>false
def Ay(P:Program):Nat→TypeId→List Ty→Bool
 |_,_,[]=>true
 |n,e,t::ts=>qH P n e t&&adT (P.cellsOf e) t.size&&Ay P n e ts
end
def t_(w:World):Nat→Nat→Prop:=fun b o=>∃u,w.cell? ⟨b,o,none⟩=some u
section
variable {P:Program} {w:World} {H:Type} {enc:TypeId×Value→H}
def wY(P:Program)(w:World)(enc:TypeId×Value→H)(t:TypeId)(τ:Ty):Prop:=
 ∀(fuel:Nat)(cs:List Value)(d:DataW H)(ps:List MemPlace),ae0 enc P w 0 (fun _=>true) true fuel t cs=some (d,ps)→(∀m∈d.weights P t,m≤reachBytes) →
  ∃x:τ.den,al w (t_ w) τ x cs∧wF τ x
theorem zhi{e:TypeId}:∀{l:List (DataW H)}{d:DataW H},d∈l→∀m∈d.weights P e,m∈aeP P e l
 |a::l,d,h,m,hm=>by
  simp only[aeP,ad3];rcases adR.1 h with rfl|h
  ·exact .inl hm
  ·exact .inr (zhi h m hm)
 |[],d,h,_,_=>by simp at h
theorem zqm{τ:Ty}{e:TypeId}(lO:wY P w enc e τ)(hc:P.cellsOf e=τ.size){a:Addr}{n:Nat}{elems:List (DataW H×List MemPlace)}
 (hw:∀y∈elems,∀m∈y.1.weights P e,m≤reachBytes) (hr:∀i,i<elems.length→(w.cells? 0 (a.add (i*P.cellsOf e)) (P.cellsOf e)).bind (ae0 enc P w 0 (fun _=>true) true n e)=elems[i]?) :
 ∀k,k≤elems.length→∃(l:List τ.den)(us:List Value),l.length=k∧bf (fun x us=>al w (t_ w) τ x us) l us∧us.length=k*τ.size∧(∀(j:Nat)(u:Value),us[j]? = some u→w.cell? (a.add j)=some u)∧∀x∈l,wF τ x
 |0,_=>⟨[],[],rfl,rfl,by simp,fun j u h=>by simp at h,fun x h=>by simp at h⟩
 | k + 1,hk=>by
  obtain⟨l,us,hl,bX,LI,fp,hwf⟩:=zqm lO hc hw hr k (by omega);have ik:k<elems.length:=by omega
  have h1:=hr k ik;rw[adU ik,Option.bind_eq_some_iff]at h1;obtain⟨cs,dy,xO⟩:=h1;obtain⟨_,hlen,tN⟩:=World.cells?_some dy;obtain⟨x,hx,Az⟩:=lO n cs _ _ xO (hw _ (List.getElem_mem ik));refine⟨l++[x],us++cs,by simp[hl],bf.append bX ⟨cs,[],by simp,hx,rfl⟩,by rw[List.length_append,LI,hlen,hc,Nat.add_mul];omega,?_,?_⟩
  ·intro j u hj;by_cases bo:j<us.length
   ·rw[adX bo]at hj;exact fp j u hj
   ·rw[adW (by omega)]at hj;have An:j - us.length<P.cellsOf e:=by have:=(adO.1 hj).1;omega
    have:=tN (j - us.length) An;rw[hj,Addr.add_add,hc,←LI,show us.length+(j - us.length)=j from by omega]at this;exact this
  ·intro y hy;rcases ad3.1 hy with h|h
   ·exact hwf y h
   ·rw[List.mem_singleton.1 h];exact Az
theorem zk3{n:Nat}{cs:List Value}(lO:∀t τ,qH P n t τ=true→wY P w enc t τ)(m:Nat)(f0:List Field) :
 ∀(fs:List Field)(ts:List Ty)(off:Nat),u7 P n fs ts off=true→cs.length=off+lq ts→∀(xs:List (DataW H×List MemPlace)),xs.length=fs.length→(∀(i:Nat)(f:Field),fs[i]? = some f→ae0 enc P w 0 (fun _=>true) true m f.type ((cs.drop f.offset).take (P.cellsOf f.type))=xs[i]?) →
  (∀q∈aev P (fs.map (·.type)) (xs.map (·.1)),q≤reachBytes)→∃x:denL ts,eU w (t_ w) ts x (cs.drop off)∧C3 ts x
 |[],[],off,_,hl,xs,_,_,_=>⟨(),by simp[eU];simp[lq]at hl;omega,trivial⟩
 | f :: fs,t::ts,off,h,hl,xs,wG,hx,hw=>by
  simp only[u7,adL,b_]at h;obtain⟨⟨⟨h1,h2⟩,h3⟩,h4⟩:=h
  match xs,wG with
  |y :: ys,wG =>
   have e0:=hx 0 f rfl;simp only[aer]at e0;simp only[aes,aev,ad3]at hw;obtain⟨x,k8,Az⟩:=lO f.type t h1 m _ _ _ e0 (fun q hq=>hw q (.inl hq));obtain⟨z,pd,WA⟩:=zk3 (cs:=cs) lO m f0 fs ts (off+t.size) h4 (by simp only[lq]at hl;omega) ys (by simpa using wG) (fun i g hg=>by simpa using hx (i+1) g (by simpa using hg)) (fun q hq=>hw q (.inr hq));refine⟨u6 t ts x z,?_,zm3 Az WA⟩;have:=zk2 k8 pd;rw[h2,h3]at this;have e:cs.drop off=(cs.drop off).take t.size++cs.drop (off+t.size):=by rw[←ae7,List.take_append_drop]
   rw[e];exact this
 |[],_::_,_,h,_,_,_,_,_=>by simp[u7]at h
 |_::_,[],_,h,_,_,_,_,_=>by simp[u7]at h
theorem zm4{n:Nat}{cs:List Value}(lO:∀t τ,qH P n t τ=true→wY P w enc t τ)(m:Nat)(e:TypeId) :
 ∀(ts:List Ty)(off:Nat),Ay P n e ts=true→cs.length=off*P.cellsOf e+lq ts→∀(xs:List (DataW H×List MemPlace)),xs.length=ts.length→(∀(i:Nat),i<xs.length→ae0 enc P w 0 (fun _=>true) true m e ((cs.drop ((off+i)*P.cellsOf e)).take (P.cellsOf e))=xs[i]?) →
  (∀q∈aeP P e (xs.map (·.1)),q≤reachBytes)→∃x:denL ts,eU w (t_ w) ts x (cs.drop (off*P.cellsOf e))∧C3 ts x
 |[],off,_,hl,xs,_,_,_=>⟨(),by simp[eU];simp[lq]at hl;omega,trivial⟩
 | t :: ts,off,h,hl,xs,wG,hx,hw=>by
  simp only[Ay,adL,b_]at h;obtain⟨⟨h1,h3⟩,h4⟩:=h
  match xs,wG with
  |y :: ys,wG =>
   have e0:=hx 0 (by simp);simp only[aer,Nat.add_zero]at e0;simp only[aes,aeP,ad3]at hw;obtain⟨x,k8,Az⟩:=lO e t h1 m _ _ _ e0 (fun q hq=>hw q (.inl hq));obtain⟨z,pd,WA⟩:=zm4 (cs:=cs) lO m e ts (off+1) h4 (by simp only[lq]at hl;rw[Nat.add_mul];omega) ys (by simpa using wG) (fun i hi=>by have:=hx (i+1) (by simpa using hi);rw[show off+1+i=off+(i+1)from by omega];simpa using this) (fun q hq=>hw q (.inr hq));refine⟨u6 t ts x z,?_,zm3 Az WA⟩;have:=zk2 k8 pd;have e2:cs.drop (off*P.cellsOf e)=(cs.drop (off*P.cellsOf e)).take (P.cellsOf e)++cs.drop ((off+1)*P.cellsOf e):=by rw[Nat.add_mul,Nat.one_mul,←ae7,List.take_append_drop]
   rw[e2];exact this
theorem Mg:∀(n:Nat)(t:TypeId)(τ:Ty),qH P n t τ=true→wY P w enc t τ
 |0,t,τ,h=>by simp[qH]at h
 | n + 1,t,τ,h=>by
  intro fuel cs d ps xO hw;unfold qH at h;split at h
  ·rename_i hu;obtain⟨q,rfl,_,hq⟩:=DataW.trod_int hu xO;simp[Lit.wf,IntKind.min,IntKind.max,IntKind.bits,IntKind.signed]at hq;refine⟨UInt8.ofNat q.toNat,?_,trivial⟩;simp only[al];have e1:(UInt8.ofNat q.toNat).toNat=q.toNat:=by simp[UInt8.toNat_ofNat'];omega
   rw[e1];simp;omega
  ·rename_i k k' hu;simp only[adL,decide_eq_true_eq]at h;obtain⟨rfl,hk⟩:=h;obtain⟨q,rfl,_,hq⟩:=DataW.trod_int hu xO;refine⟨(q:Int),?_,?_⟩
   ·simp only[al];exact⟨fun e=>absurd e hk,by simp⟩
   ·simp only[wF];simpa[Lit.wf]using hq
  ·rename_i hu;obtain⟨q,rfl,_⟩:=DataW.trod_bool hu xO;exact⟨(q:Bool),by simp[al],trivial⟩
  ·rename_i hu;obtain⟨s,rfl,hx,h3⟩:=DataW.trod_string hu xO;simp only[adY]at hx;obtain⟨rfl,_⟩:=hx;simp[afe,reachBytes]at hw;exact⟨(s.data.toList:List UInt8),⟨by simp[ai];omega,s,rfl,rfl⟩,by simp[wF,reach];omega⟩
  ·rename_i e e' hu;simp only[adL,b_,decide_eq_true_eq]at h;obtain⟨⟨⟨h1,h2⟩,h3⟩,dz⟩:=h;rcases DataW.trod_slice hu xO with⟨rfl,hx⟩ |⟨a,len,cap,elems,rest,n',_,rfl,hx,hb,hl,hm,hlen,lO,qd,hns⟩
   ·exact⟨[],⟨by simp,none,0,[],rfl,by simp,rfl,fun h=>by simp at h⟩,by simp[wF]⟩
   ·simp only[adY]at hx;obtain⟨rfl,_⟩:=hx;simp only[afe,hu,adR,ad3]at hw;have zA:=hw _ (.inl rfl);have AA:len≤reachBytes:=by
     have:elems.length≤(elems.map (·.1)).length+(rest.map (·.1)).length:=by simp
     have h5:elems.length*1≤((elems.map (·.1)).length+(rest.map (·.1)).length)*P.bytesOf e':=Nat.mul_le_mul this h3;omega
    obtain⟨l,us,q1,q2,q3,q4,q5⟩:=zqm (Mg n e' e h1) h2 (a:=a) (n:=n') (elems:=elems) (fun y hy m hm=>hw m (.inr (.inl (zhi (afm.2 ⟨y,hy,rfl⟩) m hm)))) (fun i hi=>lO i (by omega)) elems.length (ael _);refine⟨l,⟨by simp[ai,reachBytes]at AA ⊢;omega,some a,cap,us,by rw[q1,hlen],by omega,q2,fun h0 => ?_⟩,⟨by rw[q1,hlen];exact AA,q5⟩⟩;rcases a with⟨b,o,sp⟩;cases sp with
    |none =>refine⟨b,o,rfl,fun j u hj => ?_⟩;have:=q4 j u hj;rw[mu]at this;exact⟨⟨u,this⟩,this⟩
    |some sp =>
     exfalso;have oA:0<us.length:=by rw[q3];exact Nat.mul_pos (by omega) dz
     have:=q4 0 us[0] (by simp);unfold Addr.add afq at this;simp at this;split at this<;>simp_all
  ·rename_i ts fs hu;simp only[adL,b_]at h;obtain⟨xs,m,_,hx,hl,wG,hf⟩:=DataW.trod_struct hu xO;simp only[adY]at hx;obtain⟨rfl,_⟩:=hx;simp only[afe,hu]at hw;have:=zk3 (cs:=cs) (Mg n) m [] fs.toList ts 0 h.1 (by omega) xs (by simpa using wG) (fun i f hi=>hf i f (by simpa using hi)) hw;simpa[al,wF]using this
  ·rename_i ts k e hu;simp only[adL,b_]at h;obtain⟨xs,m,_,hx,hl,wG,hf⟩:=DataW.trod_array hu xO;simp only[adY]at hx;obtain⟨rfl,_⟩:=hx;simp only[afe,hu]at hw;have:=zm4 (cs:=cs) (Mg n) m e ts 0 h.2 (by omega) xs (by omega) (fun i hi=>by simpa using hf i (by omega)) hw;simpa[al,wF]using this
  ·cases h
end
end Go.AM
namespace Go.AM
open Go.RowKit Go.WideShapes Go.ChangeShapes Go.ChangeAt
section
variable {H:Type} {enc:TypeId×Value→H} {P:Program}
theorem zl4{f:Func}{s:ChangeSpec}{apart fresh handsOn again:Bool}{W W':World}{args:Array Value}{v:Value}{ds gs:List (DataW H)}{before pa pv:List MemPlace}
 (hW:DataW.Whole enc P f.params.toList s.vars apart W args.toList ds gs before)
 (kH:∀(b:Nat)(sp:Nat→Bool)(hd:Bool),aez enc P W' b sp hd f.resultTypes.toList (v.resultList f.resultTypes.size) (s.fn H (ds++gs)).results [])
 (gv:∀sp:Nat→Bool,(∀p∈before,sp p.block=true)→aez enc P W' 0 sp true f.params.toList args.toList (s.fn H (ds++gs)).args pa)
 (u9:∀sp:Nat→Bool,(∀p∈before,sp p.block=true)→DataW.TrodVars enc P W' sp s.vars (s.fn H (ds++gs)).vars pv)
 (Mh:before=pa++pv) (hb:Below W.heap.size W W')
 (cb:∀(j:Nat)(t:TypeId)(r:Value),f.resultTypes[j]? = some t→(v.resultList f.resultTypes.size)[j]? = some r→ae1 P W' .any 0 t r) :
 s.post enc P f apart fresh handsOn again W args v W':=by
 have bo:∀p∈before,p.block<W.heap.size:=fun p hp=>hW.lt p hp;have hold:∀p∈before,(fun b=>decide (b<W.heap.size)) p.block=true:=fun p hp=>by simpa using bo p hp
 refine⟨ds,gs,before,[],pa,pv,hW,kH _ _ _,gv _ hold,u9 _ hold,World.keptBut_mono (fun p hp=>⟨hp,?_⟩) (hb.frame (· ∈ before)),fun _ => ?_⟩
 ·rw[Mh,ad3]at hp;exact Or.inr hp
 ·obtain⟨_,_,_,_,_,hz,hn⟩:=hW;refine⟨cb,_,_,([]++pa)++pv,⟨[]++pa,pv,trodAll_append (gv _ (fun _ _=>rfl)) (kH _ _ _),u9 _ (fun _ _=>rfl),rfl,?_,?_⟩,?_⟩
  ·intro b off hp;have jL:MemPlace.cell b off∈before:=by rw[Mh];simpa using hp
   rw[hb.frozen (bo _ jL)];exact hz b off jL
  ·intro ha;have:=hn ha;rw[Mh]at this;simpa using this
  ·intro p hp _;rw[Mh];simpa using hp
theorem z0v{W:World}{n base:Nat}{t:TypeId}{τ:Ty}{v:Value}(ht:qH P (n+1) t τ=true)(j8:ae1 P W .any base t v){D:Nat→Nat→Prop}{x:τ.den}(hx:al W D τ x v.cells.toList) :
 af W ⟨D,[],[],[],[],rI⟩ v (NA τ x):=by
 have hc:ak W ⟨D,[],[],[],[],rI⟩ v.cells.toList (τ.cells x):=tD τ x _ hx;have one:∀{a:AV}{u:Value},v.cells=#[u]→v=u→τ.cells x=[a]→af W ⟨D,[],[],[],[],rI⟩ v a:=by intro a u h1 h2 h3;rw[h1,h3]at hc;subst h2;exact hc.2 0 v a rfl rfl
 unfold qH at ht;split at ht
 ·rename_i hu;obtain⟨q,rfl⟩:=okWide_int hu j8;exact one rfl rfl rfl
 ·rename_i k k' hu;obtain⟨q,rfl⟩:=okWide_int hu j8;exact one rfl rfl rfl
 ·rename_i hu;obtain⟨q,rfl⟩:=okWide_bool hu j8;exact one rfl rfl rfl
 ·rename_i hu;obtain⟨q,rfl⟩:=okWide_string hu j8;exact one rfl rfl rfl
 ·rename_i e e' hu;obtain⟨a,len,cap,rfl⟩:=okWide_slice hu j8;exact one rfl rfl rfl
 ·rename_i ts fs hu;obtain⟨cs,rfl,_⟩:=okWide_struct hu j8;refine .agg cs _ (by simpa[afs,Ty.cells]using hc.1) fun i v c hv oC => ?_;exact hc.2 i v c (by simpa[afs]using hv) oC
 ·rename_i ts k e hu;unfold ae1 at j8;rw[hu]at j8;obtain⟨cs,rfl,_⟩:=j8;refine .agg cs _ (by simpa[afs,Ty.cells]using hc.1) fun i v c hv oC => ?_;exact hc.2 i v c (by simpa[afs]using hv) oC
 ·cases ht
@[reducible] def denP:List Ty→Type
  |[]=>Unit
  |t::ts=>t.den×denP ts
def WB:(ts:List Ty)→denP ts→Prop
 |[],_=>True
 |t::ts,x=>wF t x.1∧WB ts x.2
def C4:(ts:List Ty)→denP ts→List AV
 |[],_=>[]
 |t::ts,x=>NA t x.1::C4 ts x.2
def kJ(P:Program)(n:Nat):List TypeId→List Ty→Bool
 |[],[]=>true
 |t::ts,τ::τs=>qH P (n+1) t τ&&P.readableRec t&&aeQ t P.types.size&&kJ P n ts τs
 |_,_=>false
theorem zm5{W:World}{n base:Nat}:∀{ts:List TypeId}{τs:List Ty}{vs:List Value}{ds:List (DataW H)}{ps:List MemPlace},kJ P n ts τs=true→aez enc P W 0 (fun _=>true) true ts vs ds ps →
 (∀(j:Nat) t v,ts[j]? = some t→vs[j]? = some v→ae1 P W .any base t v)→(∀m∈aev P ts ds,m≤reachBytes)→∃x:denP τs,ak W ⟨t_ W,[],[],[],[],rI⟩ vs (C4 τs x)∧WB τs x
 |[],[],vs,ds,ps,_,h,_,_=>by obtain⟨rfl,rfl,rfl⟩:=trodAll_nil h;exact⟨(),.nil,trivial⟩
 |t::ts,τ::τs,vs,ds,ps,jd,h,j8,hw=>by obtain⟨v,l_,d,ds',p,q,rfl,rfl,rfl,h1,h2⟩:=trodAll_cons h;simp only[kJ,adL]at jd;simp only[aev,ad3]at hw;obtain⟨fuel,xO⟩:=h1;obtain⟨x,hx,Az⟩:=Mg (n+1) t τ jd.1.1.1 fuel _ _ _ xO (fun m hm=>hw m (.inl hm));obtain⟨y,hy,hyw⟩:=zm5 (n:=n) (base:=base) jd.2 h2 (fun j t v a b=>j8 (j+1) t v a b) (fun m hm=>hw m (.inr hm));exact⟨(x,y),.cons (z0v jd.1.1.1 (j8 0 t v rfl rfl) hx) hy,Az,hyw⟩
 |[],_::_,_,_,_,h,_,_,_=>by simp[kJ]at h
 |_::_,[],_,_,_,h,_,_,_=>by simp[kJ]at h
theorem zk4{W W':World}{n:Nat}(hl:laidOutB P=true){sp:Nat→Bool}:∀{ts:List TypeId}{τs:List Ty}{vs:List Value}{ds:List (DataW H)}{ps:List MemPlace},kJ P n ts τs=true→aez enc P W 0 (fun _=>true) true ts vs ds ps →
 (∀p∈ps,W.sameAt W' p)→(∀p∈ps,sp p.block=true)→aez enc P W' 0 sp true ts vs ds ps
 |[],[],vs,ds,ps,_,h,_,_=>by obtain⟨rfl,rfl,rfl⟩:=trodAll_nil h;exact trodAll_mk0
 | t :: ts,τ::τs,vs,ds,ps,jd,h,hs,qd=>by
  obtain⟨v,l_,d,ds',p,q,rfl,rfl,rfl,h1,h2⟩:=trodAll_cons h;simp only[kJ,adL,eV]at jd
  exact⟨p,q,WideElems.Trod_stays hl jd.1.1.2 jd.1.2 h1 (fun x hx=>hs x (List.mem_append_left _ hx)) (fun x hx=>qd x (List.mem_append_left _ hx)),
   zk4 hl jd.2 h2 (fun x hx=>hs x (List.mem_append_right _ hx)) (fun x hx=>qd x (List.mem_append_right _ hx)),rfl⟩
 |[],_::_,_,_,_,h,_,_,_=>by simp[kJ]at h
 |_::_,[],_,_,_,h,_,_,_=>by simp[kJ]at h
def BZ(P:Program)(I:World→Prop)(g:Nat)(τs:List Ty):Prop:=
 ∀(x:denP τs),WB τs x→∀(w:World)(aj:Array Value),I w→ak w ⟨t_ w,[],[],[],[],rI⟩ aj.toList (C4 τs x)→my P g aj w (hK (t_ w) w (.bool true))
theorem zua {fn : Func} {g n : Nat} {τs : List Ty} {b : TypeId} {s : ChangeSpec} {I : World → Prop} (hl : laidOutB P = true) (tP : P.funcs[g]? = some fn) (Hj : fn.body.isSome = true) (n_ : fn.name ≠ "runtime.NumGoroutine")
 (jd:kJ P n fn.params.toList τs=true) (kH:fn.resultTypes=#[b]) (hb:P.underlying b=some .bool) (u9:s.vars=[])
 (WC:∀ds:List (DataW H),ds.length=τs.length→s.fn H ds={ results:=[.lit (.bool true)],args:=ds }) (Wf:BZ P I g τs)
 {W:World} {base:Nat} {args:Array Value} {ds gs:List (DataW H)} {before:List MemPlace} {apart fresh handsOn again:Bool}
 (j8:∀(j:Nat) t v,fn.params[j]? = some t→args[j]? = some v→ae1 P W .any base t v)
 (hW:DataW.Whole enc P fn.params.toList s.vars apart W args.toList ds gs before)
 (hw:(aev P (fn.params.toList++s.plain.varTypes P) (ds++gs)).all (· ≤ reachBytes)=true) (hI:I W) :
 Calls P g args W fun e W'=>∃v,e = .returned v∧s.post enc P fn apart fresh handsOn again W args v W':=by
 have WD:=hW;obtain⟨p,q,hA,hV,rfl,Ly,L6⟩:=hW;rw[u9]at hV;obtain⟨rfl,rfl⟩:=trodVars_none hV;have uU:s.plain.varTypes P=[]:=by simp[ChangeSpec.plain,u9,DataSpec.varTypes]
 rw [uU]at hw;simp only[aeC,aey,decide_eq_true_eq]at hw;obtain⟨x,hx,Az⟩:=zm5 (n:=n) (base:=base) jd hA (fun j t v a b=>j8 j t v (by simpa using a) (by simpa using b)) hw;have hlen:ds.length=τs.length:=by
  have:∀{ts:List TypeId}{τs:List Ty}{vs:List Value}{ds:List (DataW H)}{ps:List MemPlace},kJ P n ts τs=true→aez enc P W 0 (fun _=>true) true ts vs ds ps→ds.length=τs.length:=by
   intro ts;induction ts with
   |nil =>
    intro τs vs ds ps h1 h2;cases τs with
    |nil=>obtain⟨_,rfl,_⟩:=trodAll_nil h2;rfl
    |cons _ _=>simp[kJ]at h1
   |cons t ts ih =>
    intro τs vs ds ps h1 h2;cases τs with
    |nil=>simp[kJ]at h1
    |cons τ τs =>obtain⟨v,l_,d,ds',p,q,rfl,rfl,rfl,_,h4⟩:=trodAll_cons h2;simp only[kJ,adL]at h1;simp[ih h1.2 h4]
  exact this jd hA
 have Wr:(callFunc g args).run P W = .ok (.enter g args) W:=by
  cases kz:fn.body with
  |none=>rw[kz]at Hj;cases Hj
  |some c=>simp[callFunc,run_program,tP,kz,n_]
 have hC:CallsIn aeZ 0 P g args W (fun|.returned v,w'=>hK (t_ W) W (.bool true) v w' |_,_=>False):=by
  rcases Wf x Az W args hI hx with⟨_,h⟩ |⟨v,w',h,_⟩
  ·exact h
  ·rw[Wr]at h;cases h
 refine(callsIn_wide.1 hC).mono fun e W' hR => ?_;cases e with
 |panicked ch=>exact hR.elim
 |outgrown=>exact hR.elim
 |returned v =>
  obtain⟨G',_,_,gQ,hv⟩:=hR;simp only[mI]at hv;obtain rfl:=n5 hv;have NS:=gQ.below;simp only[aeC]at WD ⊢;have CQ:=WC ds hlen;refine⟨_,rfl,zl4 (pa:=p) (pv:=[]) WD (fun _ _ _ => ?_) (fun sp qd => ?_) (fun sp qd => ?_) (by simp) NS (ok_one kH rfl (okWide_bool_mk hb _))⟩
  ·simp only[aeC];rw[kH,CQ];exact trodAll_cons_mk (shut_bool hb _) trodAll_mk0
  ·simp only[aeC];rw[CQ];exact zk4 hl jd hA (fun y hy=>NS.same (WD.lt y hy)) qd
  ·simp only[aeC];rw[CQ,u9];exact rfl
end
end Go.AM
namespace Go.AM
open Go.RowKit
universe u
def AB{α:Type u}:List (Nat×α)→Nat→Option α
 |[],_=>none
 |(k,a)::l,g=>bif adT k g then some a else AB l g
def vS{α:Type u}(e:α):List (Nat×Nat×α)→Nat→Nat→α
 |[],_,_=>e
 |(k,j,a)::l,g,i=>bif adT k g&&adT j i then a else vS e l g i
theorem E3{α:Type u}{a:α}:∀{l:List (Nat×α)}{g:Nat},AB l g=some a→(g,a)∈l
 |[],g,h=>by cases h
 |(k,b)::l,g,h=>by
  simp only[AB]at h;cases hb:adT k g with
  |true =>rw[hb]at h;obtain rfl:=b_.1 hb;obtain rfl:=adP h;exact List.mem_cons_self
  |false=>rw[hb]at h;exact aeX _ (E3 h)
theorem zm6{α:Type u}{e a:α}:∀{l:List (Nat×Nat×α)}{g i:Nat},vS e l g i=a→a=e∨(g,i,a)∈l
 |[],g,i,h => .inl h.symm
 | (k,j,b)::l,g,i,h=>by
  simp only[vS]at h;cases hb:(adT k g&&adT j i)with
  |true =>rw[hb]at h;simp only[adL,b_]at hb;obtain⟨rfl,rfl⟩:=hb;obtain rfl:b=a:=h;exact .inr List.mem_cons_self
  |false =>
   rw[hb]at h;rcases zm6 h with h|h
   ·exact .inl h
   ·exact .inr (aeX _ h)
def lj{α:Type u}(p:α→Prop):List α→Prop
 |[]=>True
 |a::l=>p a∧lj p l
theorem rX{α:Type u}{p:α→Prop}:∀{l:List α},lj p l→∀x∈l,p x
 |[],_,x,h=>by simp at h
 |a::l,hp,x,h=>by
  rcases adR.1 h with rfl|h
  ·exact hp.1
  ·exact rX hp.2 x h
noncomputable def bc{X:Type}(tab:Nat→Option TI)(fns:List (Nat×Func))(C:List (Nat×(List AV→Option Entry)))(loops:List (Nat×Nat×List (bm X)))(lr:List (Nat×Nat×Func×List Nat×Nat))
 (conf:List (Nat×Nat×List (Nat×Nat))) (lG:List (Nat×Nat×Nat)) (pQ:List (Nat×Nat×List (ar X)):=[]) (rows:List (Nat×Ty):=[]) (pr:List (Nat×Pr):=[]) (bt:Option (Nat×Nat):=none) (eJ:List Nat:=[]):Cx X:=
 { tab:=tab,fns:=AB fns,C:=AB C,loops:=vS [] loops,lG:=vS 0 lG,pQ:=vS [] pQ,conf:=vS [] conf,rows:=AB rows,pr:=AB pr,bt:=bt,eJ:=fun g=>eJ.any (adT g),
   lr:=fun g i=>match vS none (lr.map fun q=>(q.1,q.2.1,some q.2.2)) g i with
    |some (f,lv,k)=>some (f.ntmps,lv,tZ f k)
    |none=>none }
theorem z3x{X:Type}{cx:Cx X}{g N:Nat}{c:Code}(ua:∀i,cx.pQ g i=[])(hd:(fI c).all (fun q:Nat×Array Oper=>lJ cx.tab q.2 (cx.conf g q.1) (sP q.2.toList []))=true)
 (hl:pV (fun b=>lj (nN cx g N b) (m_ cx g b)) (fw c)) (hr:pV (fun q:Option Nat×List Nat×Code×Code=>∀i,q.1=some i→∃lv,cx.lr g i=some (N,lv,q.2)) (gi c)):lA cx g N c:=by
 refine zt9 c (fun q hq=>aey.1 hd q hq) (fun b hb=>rX (zD hl b hb)) (fun b hb ci xP => ?_) (fun q hq=>zD hr q hq);unfold rB at xP;split at xP
 ·rw[ua]at xP;cases xP
 ·cases xP
theorem z0w{X:Type}{cx:Cx X}{g N:Nat}{c:Code}(hk:pV (fun b=>lj (xK cx g N b) (rB cx g b)) (gY c))(hd:(fI c).all (fun q:Nat×Array Oper=>lJ cx.tab q.2 (cx.conf g q.1) (sP q.2.toList []))=true)
 (hl:pV (fun b=>lj (nN cx g N b) (m_ cx g b)) (fw c)) (hr:pV (fun q:Option Nat×List Nat×Code×Code=>∀i,q.1=some i→∃lv,cx.lr g i=some (N,lv,q.2)) (gi c)):lA cx g N c:=
 zt9 c (fun q hq=>aey.1 hd q hq) (fun b hb=>rX (zD hl b hb)) (fun b hb=>rX (zD hk b hb)) (fun q hq=>zD hr q hq)
noncomputable def WE(f:Func)(k:Nat):Code:=(nth (gY (f.body.getD .skip)) k).getD .skip
theorem z0x{X:Type}{P:Program}{W:World→Prop}{tab:Nat→Option TI}{fns:List (Nat×Func)}{C:List (Nat×(List AV→Option Entry))}{loops:List (Nat×Nat×List (bm X))}{lr:List (Nat×Nat×Func×List Nat×Nat)}
 {conf : List (Nat × Nat × List (Nat × Nat))} {lG : List (Nat × Nat × Nat)} {pQ : List (Nat × Nat × List (ar X))} {rows : List (Nat × Ty)} {pr : List (Nat × Pr)} {bt : Option (Nat × Nat)} {eJ : List Nat} (hm : P.follows .mixedOrders = true) (ht : fC P tab) (hf : lj (fun p => P.funcs[p.1]? = some p.2 ∧ p.2.name ≠ "runtime.NumGoroutine") fns)
 (hC:lj (fun p=>mc P W p.1 p.2) C) (hc:lj (fun p=>lA (bc tab fns C loops lr conf lG pQ rows pr bt eJ) p.1 p.2.ntmps (p.2.body.getD .skip)) fns) (hr:lj (fun q=>P.funcs[q.1]? = some q.2.2.1∧AB fns q.1=some q.2.2.1) lr)
 (hp:lj (fun p=>jg P W p.1 p.2) pr:=by exact trivial) :
 a_ P W (bc tab fns C loops lr conf lG pQ rows pr bt eJ) where
 mixed:=hm
 tab:=ht
 C:=⟨fun g iY h=>rX hC _ (E3 h),fun g p h=>rX hp _ (E3 h)⟩
 fns:=fun g fn h=>rX hf _ (E3 h)
 code:=fun g fn c h hb=>by have:=rX hc _ (E3 h);simp only[hb,afn]at this;exact this
 lr := fun g i N lv ps aS b h=>by
  simp only[bc]at h;split at h
  ·rename_i f lv' k hk;rcases zm6 hk with h' |h'
   ·cases h'
   ·obtain⟨q,hq,e⟩:=afm.1 h';simp only[adY,adK]at e;obtain⟨rfl,rfl,e⟩:=e;have h1:=rX hr q hq;have h2:=rX hc _ (E3 h1.2);have h3:=adP h;simp only[adY]at h3;obtain⟨rfl,_,h3⟩:=h3;have h4:=aeo (f:=q.2.2.1) h2 k;rw[show q.2.2.1=f from by rw[e]]at h4;rw[h3]at h4;exact h4
  ·cases h
theorem xQ{p q:Prop}(h:p=q)(x:q):p:=h▸x
theorem enters {P : Program} {g : Nat} {fn : Func} (h : P.funcs[g]? = some fn) (hb : fn.body.isSome = true) (hn : fn.name ≠ "runtime.NumGoroutine") (aj : Array Value) (w : World) : (callFunc g aj).run P w = .ok (.enter g aj) w := by
 cases kz:fn.body with
 |none=>rw[kz]at hb;cases hb
 |some c=>simp[callFunc,run_program,h,kz,hn]
def Enters(P:Program)(g:Nat):Prop:=∀(aj:Array Value)(w:World),(callFunc g aj).run P w = .ok (.enter g aj) w
theorem zx{P:Program}{g:Nat}(he:Enters P g){aj:Array Value}{w:World}{R:Value→World→Prop}(h:Calls P g aj w fun e w'=>∃v,e = .returned v∧R v w'):my P g aj w R:=by refine .inl ⟨he aj w,callsIn_wide.2 (h.mono fun e w' ⟨v,hv,hr⟩ => ?_)⟩;subst hv;exact hr
theorem WH{D D':Nat→Nat→Prop}{w w':World}{v:Value}{a:AV}(hm:mI [] a=(a,[]))(hb:Below w.heap.size w w')(hD:∀b o,D b o→D' b o)(hc:∀b o,D' b o→∃u,w'.cell? ⟨b,o,none⟩=some u)
 (h0:∀b o,D' b o→D b o∨w.heap.size≤b) (hv:af w' ⟨D',[],[],[],[],rI⟩ v a):hK D w a v w':=by
 refine⟨⟨D',[],[],[],[],rI⟩,rfl,hD,?_,by rw[hm];exact hv⟩;rw[hm];exact
 { below:=hb
   b0:=hb.size
   eb:=rfl
   box:=fun r b cs h1 h2=>by simp at h1
   fl:=fun r cs h1 h2=>by simp at h1
   inj:=fun r r' b h1 h2=>by simp at h1
   ec:=fun b o BO=>⟨hc b o BO,by simp⟩
   fo:=fun b o BO=>h0 b o BO
   fO:=rfl
   tok:=fun t g ht=>by simp at ht
   gA:=fun t t' g g' h1 h2=>by simp at h1
   fU:=rfl
   loop:=fun j p s h1 h2=>by simp at h1
   ie:=fun j j' p p' h1 h2=>by simp at h1
   gu:=fun d hd=>by simp at hd
   ig:=by simp }
theorem z8{D:Nat→Nat→Prop}{w w':World}{v:Value}{a:AV}(hm:mI [] a=(a,[]))(hb:Below w.heap.size w w')(hc:∀b o,D b o→∃u,w.cell? ⟨b,o,none⟩=some u)(hv:af w' ⟨D,[],[],[],[],rI⟩ v a):hK D w a v w':=by
 refine WH hm hb (fun _ _ h=>h) (fun b o h => ?_) (fun b o h => .inl h) hv;obtain⟨u,hu⟩:=hc b o h
 exact⟨u,by rw[hb.cell (p:=⟨b,o,none⟩) (by
  unfold afq at hu;simp only at hu;split at hu
  ·rename_i h1;exact(adS.1 h1).1
  ·cases hu)];exact hu⟩
theorem Mi{w:World}{b o:Nat}{u:Value}(h:w.cell? ⟨b,o,none⟩=some u):b<w.heap.size:=by
 unfold afq at h;simp only at h;split at h
 ·rename_i h1;exact(adS.1 h1).1
 ·cases h
end Go.AM
namespace Go.AM
open Go.RowKit
def eP:Nat:=140737488355328
namespace O
def mM(n:Nat)(s sub:List UInt8):Option Int:=match sub with
 |[c]=>some (ad4 s c)
 |_=>none
def join(n:Nat)(xs:List (List UInt8))(sep:List UInt8):Option (List UInt8):=bif aeR xs.length eP&&aeR (aeL xs sep).length eP then some (aeL xs sep)else none
def u_(n:Nat)(xs:List (List UInt8))(sep:List UInt8):Option (List UInt8):=bif aeR xs.length eP&&aeR (Lib.lens xs+sep.length*(xs.length - 1)) eP&&sep.isEmpty then some xs.flatten else none
end O
section
variable {P:Program} {W:World→Prop} {g:Nat}
theorem oa{w:World}{G:GS}{aj:Array Value}{a b:AV}(h:ak w G aj.toList [a,b]):∃u v,aj=#[u,v]∧af w G u a∧af w G v b:=by
 rcases aj with⟨l⟩
 match l,h with
 |[u,v],h=>exact⟨u,v,rfl,h.2 0 u a rfl rfl,h.2 1 v b rfl rfl⟩
 |[],h=>simp[ak]at h
 |[_],h=>simp[ak]at h
 |_::_::_::_,h=>simp[ak]at h
theorem C6{w:World}{G:GS}{aj:Array Value}{a:AV}(h:ak w G aj.toList [a]):∃u,aj=#[u]∧af w G u a:=by
 rcases aj with⟨l⟩
 match l,h with
 |[u],h=>exact⟨u,rfl,h.2 0 u a rfl rfl⟩
 |[],h=>simp[ak]at h
 |_::_::_,h=>simp[ak]at h
theorem WJ{w:World}{G:GS}{aj:Array Value}{a b c:AV}(h:ak w G aj.toList [a,b,c]):∃u v x,aj=#[u,v,x]∧af w G u a∧af w G v b∧af w G x c:=by
 rcases aj with⟨l⟩
 match l,h with
 |[u,v,x],h=>exact⟨u,v,x,rfl,h.2 0 u a rfl rfl,h.2 1 v b rfl rfl,h.2 2 x c rfl rfl⟩
 |[],h=>simp[ak]at h
 |[_],h=>simp[ak]at h
 |[_,_],h=>simp[ak]at h
 |_::_::_::_::_,h=>simp[ak]at h
theorem WL{w:World}{G:GS}{v:Value}{τ:Ty}{l:List τ.den}{c:Cap}(h:af w G v (.sl τ l c)):al w G.D (.sl τ) l [v]:=by cases h with|sl _ _ _ _ h _=>exact h
theorem zqn{w:World}{D:Nat→Nat→Prop}:∀{l:List (List UInt8)}{us:List Value},bf (fun x us=>al w D .str x us) l us→∃xs:List ByteArray,xs.length=l.length∧xs.map (·.data.toList)=l∧∀(j:Nat) x,xs[j]? = some x→us[j]? = some (.string x)
 |[],us,h=>⟨[],rfl,rfl,fun j x h=>by simp at h⟩
 |x::l,us,h=>by
  obtain⟨v1,v2,rfl,h1,h2⟩:=h;obtain⟨xs,e1,e2,e3⟩:=zqn (w:=w) (D:=D) h2;simp only[al]at h1;obtain⟨_,bs,rfl,hb⟩:=h1;refine⟨bs::xs,by simp[e1],by simp[e2,hb],fun j y hj => ?_⟩;cases j with
  |zero=>simp at hj;subst hj;simp
  |succ j=>simpa using e3 j y (by simpa using hj)
theorem zub(he:Enters P g)(h:∀(s:ByteArray)(c:UInt8)(w:World),Calls P g #[.string s,.string ⟨#[c]⟩] w fun e w'=>e = .returned (.int .i64 (ad4 s.data.toList c))∧w'=w)(n:Nat) :
 kI P W g [.str,.str] (.one (.int .i64)) (fun x=>O.mM n x.1 x.2.1):=by
 rintro ⟨s,sub,_⟩ y hy w D aj hw ha hc
 obtain⟨u,v,rfl,hu,hv⟩:=oa ha;obtain⟨bs,rfl,iN,_⟩:=zq hu;obtain⟨cs,rfl,dy,_⟩:=zq hv;simp only[O.mM]at hy;by_cases nM:∃c,sub=[c]
 ·obtain⟨c,rfl⟩:=nM;simp only[adK]at hy;subst hy;have e:cs=⟨#[c]⟩:=by
   cases cs with
   |mk a=>cases a;simp at dy;rw[dy]
  subst e;refine zx he ((h bs c w).mono fun e w' ⟨h1,h2⟩=>⟨_,h1,?_⟩);subst h2;have iN:bs.data.toList=s:=iN;rw[iN];exact z8 rfl (aea _ _) hc (.int _ _ (by simp))
 ·split at hy
  ·exact absurd ⟨_,rfl⟩ nM
  ·cases hy
theorem z0y(he:Enters P g)(h0:∀(a:Option Addr)(c:Nat)(sep:ByteArray)(w:World),Calls P g #[.slice a 0 c,.string sep] w fun e w'=>e = .returned (.string ⟨#[]⟩)∧w'=w)
 (h:∀(bk o c:Nat)(xs:List ByteArray)(sep:ByteArray)(w:World),(∀(j:Nat) x,xs[j]? = some x→w.cell? ⟨bk,o+j,none⟩=some (.string x))→bk<w.heap.size→xs.length≤140737488355328→xs.length≤c →
  (aeL (xs.map (·.data.toList)) sep.data.toList).length≤140737488355328→Calls P g #[.slice (some ⟨bk,o,none⟩) xs.length c,.string sep] w fun e w'=>e = .returned (.string ⟨(aeL (xs.map (·.data.toList)) sep.data.toList).toArray⟩)∧Below w.heap.size w w') (n:Nat) :
 kI P W g [.sl .str .eY,.str] (.one .str) (fun x=>O.join n x.1 x.2.1):=by
 rintro ⟨l,sep,_⟩ y hy w D aj hw ha hc
 obtain⟨u,v,rfl,hu,hv⟩:=oa ha;obtain⟨cs,rfl,dy,_⟩:=zq hv;have hr:=WL hu;simp only[al]at hr;obtain⟨nK,A,c,us,hA,hle,bX,fp⟩:=hr;obtain rfl:u = .slice A l.length c:=by simpa using hA
 simp only[O.join]at hy;obtain⟨hb,hy⟩:=zf hy;simp only[adL,jZ,eP]at hb;simp only[adK]at hy;obtain⟨xs,e1,e2,e3⟩:=zqn (w:=w) (D:=D) bX;by_cases hl:l.length=0
 ·have k7:=ad1 hl;subst k7;refine zx he ((h0 A c cs w).mono fun e w' ⟨h1,h2⟩=>⟨_,h1,?_⟩);subst h2;subst hy;exact z8 rfl (aea _ _) hc (.str _ _ (by simp[aeL]) (by simp[aeL]))
 ·obtain⟨b,o,rfl,gU⟩:=fp (by omega);have hxs:0<xs.length:=by omega
  have bo:b<w.heap.size:=Mi (gU 0 _ (e3 0 xs[0] (by simp))).2;have:=h b o c xs cs w (fun j x hj=>(gU j _ (e3 j x hj)).2) bo (by omega) (by omega) (by rw[e2,dy];exact hb.2);rw[e1,e2,dy]at this;refine zx he (this.mono fun e w' ⟨h1,h2⟩=>⟨_,h1,?_⟩);subst hy;exact z8 rfl h2 hc (.str _ _ (by simp) (by simp only[ai];omega))
theorem WM{w:World}{D:Nat→Nat→Prop}:∀{l:List UInt8}{us:List Value},bf (fun x us=>al w D .u8 x us) l us→∀(j:Nat) x,l[j]? = some x→us[j]? = some (.int .u8 (x.toNat:Int))
 |[],us,h,j,x,hj=>by simp at hj
 |y::l,us,h,j,x,hj=>by
  obtain⟨v1,v2,rfl,h1,h2⟩:=h;simp only[al]at h1;subst h1;cases j with
  |zero=>simp at hj;subst hj;simp
  |succ j=>simpa using WM (w:=w) (D:=D) h2 j x (by simpa using hj)
theorem zm7{w:World}{D:Nat→Nat→Prop}{l:List UInt8}{v:Value}(h:al w D (.sl .u8) l [v]):Lib.HoldsBytes w v l:=by
 simp only[al]at h;obtain⟨_,A,c,us,hv,_,bX,fp⟩:=h;obtain rfl:v = .slice A l.length c:=by simpa using hv
 by_cases hl:l.length=0
 ·have:=ad1 hl;subst this;exact⟨A,c,rfl,fun _=>rfl,fun a _ i x hx=>by simp at hx⟩
 ·obtain⟨b,o,rfl,gU⟩:=fp (by omega);refine⟨some ⟨b,o,none⟩,c,rfl,(fun e=>by cases e),fun a ha i x hx => ?_⟩;obtain rfl:=adP ha;rw[mu];exact(gU i _ (WM (w:=w) (D:=D) bX i x hx)).2
theorem zk5:∀(l:List UInt8),bf (fun(x:UInt8) us=>us=[Value.int .u8 (x.toNat:Int)]) l (l.map fun x => .int .u8 (x.toNat:Int))
 |[]=>rfl
 |x::l=>⟨[.int .u8 (x.toNat:Int)],l.map fun x => .int .u8 (x.toNat:Int),rfl,rfl,zk5 l⟩
theorem WN{D:Nat→Nat→Prop}{w w':World}{v:Value}{l:List UInt8}(hc:∀b o,D b o→∃u,w.cell? ⟨b,o,none⟩=some u)(hb:Below w.heap.size w w')(hl:l.length≤ai){A:Option Addr}{c:Nat}(hv:v = .slice A l.length c)(hle:l.length≤c)
 (fp:0<l.length→∃q o,A=some ⟨q,o,none⟩∧(w.heap.size≤q)∧∀(j:Nat) x,l[j]? = some x→w'.cell? ⟨q,o+j,none⟩=some (.int .u8 (x.toNat:Int))):hK D w (.sl .u8 l .eY) v w':=by
 subst hv;refine WH (D':=fun b o=>D b o∨(w.heap.size≤b∧∃u,w'.cell? ⟨b,o,none⟩=some u)) rfl hb (fun b o h => .inl h) (fun b o h => ?_) (fun b o h=>h.elim .inl fun h => .inr h.1) ?_
 ·rcases h with h|h
  ·obtain⟨u,hu⟩:=hc b o h;exact⟨u,by rw[hb.cell (p:=⟨b,o,none⟩) (Mi hu)];exact hu⟩
  ·exact h.2
 ·refine .sl _ _ _ _ ?_ trivial;simp only[al];refine⟨hl,A,c,l.map fun x => .int .u8 (x.toNat:Int),rfl,hle,zk5 l,fun h0 => ?_⟩;obtain⟨q,o,rfl,hq,gU⟩:=fp h0;refine⟨q,o,rfl,fun j u hj => ?_⟩;rw[List.getElem?_map,Option.map_eq_some_iff]at hj;obtain⟨x,hx,rfl⟩:=hj;have:=gU j x hx;exact⟨.inr ⟨hq,_,this⟩,this⟩
theorem zm8{w:World}{D:Nat→Nat→Prop}:∀{l:List (List UInt8)}{us:List Value},bf (fun x us=>al w D (.sl .u8) x us) l us→us.length=l.length∧∀(i:Nat) v x,us[i]? = some v→l[i]? = some x→al w D (.sl .u8) x [v]
 |[],us,h=>by have:us=[]:=h;subst this;exact⟨rfl,fun i v x h=>by simp at h⟩
 |y::l,us,h=>by
  obtain⟨v1,v2,rfl,h1,h2⟩:=h;obtain⟨e1,e2⟩:=zm8 (w:=w) (D:=D) h2;have qc:=h1;simp only[al]at h1;obtain⟨_,A,c,us,rfl,_⟩:=h1;refine⟨by simp[e1],fun i v x hv hx => ?_⟩;cases i with
  |zero=>simp at hv hx;subst hv;subst hx;exact qc
  |succ i=>exact e2 i v x (by simpa using hv) (by simpa using hx)
theorem zm9:∀(xs:List (List UInt8)),aeL xs []=xs.flatten:=by
 intro xs;cases xs with
 |nil=>rfl
 |cons x r=>rw[Lib.join_cons];simp[Lib.joinTail]
theorem zgi(xs:List (List UInt8)):xs.flatten.length=Lib.lens xs:=by simp[Lib.lens,List.length_flatten]
theorem zw9(he:Enters P g)(h0:∀(p:Option Addr)(c:Nat)(sv:Value)(w:World),∃t,Calls P g #[.slice p 0 c,sv] w fun e w'=>e = .returned (.slice (some ⟨w.heap.size,0,none⟩) 0 0)∧w'=w.alloc (.cells #[] t))
 (h1:∀(b o c:Nat)(E4:Addr)(c0:Nat)(l0:List UInt8)(sv:Value)(w:World),w.cell? ⟨b,o,none⟩=some (.slice (some E4) l0.length c0)→(∀(i:Nat) x,l0[i]? = some x→w.cell? (E4.add i)=some (.int .u8 (x.toNat:Int)))→0<l0.length→l0.length≤140737488355328 →
  Calls P g #[.slice (some ⟨b,o,none⟩) 1 c,sv] w fun e w'=>∃v',e = .returned v'∧Lib.FreshBytes w.heap.size w' v' l0∧Below w.heap.size w w')
 (h1e:∀(b o c:Nat)(p0:Option Addr)(c0:Nat)(sv:Value)(w:World),w.cell? ⟨b,o,none⟩=some (.slice p0 0 c0)→Calls P g #[.slice (some ⟨b,o,none⟩) 1 c,sv] w fun e w'=>e = .returned (.slice none 0 0)∧w'=w)
 (h2:∀(b o n c:Nat)(vs:List Value)(ls:List (List UInt8))(sv:Value)(sep:List UInt8)(w:World),ls.length=n→2≤n→Lib.PartsAt w ⟨b,o,none⟩ vs ls→n≤c→Lib.HoldsBytes w sv sep→n≤140737488355328→Lib.lens ls+sep.length*(n - 1)≤140737488355328 →
  Calls P g #[.slice (some ⟨b,o,none⟩) n c,sv] w fun e w'=>∃v',e = .returned v'∧Lib.FreshBytes w.heap.size w' v' (aeL ls sep)∧Below w.heap.size w w') (n:Nat) :
 kI P W g [.sl (.sl .u8) .eY,.sl .u8 .eY] (.one (.sl .u8 .eY)) (fun x=>O.u_ n x.1 x.2.1):=by
 rintro ⟨l,sep,_⟩ y hy w D aj hw ha hc
 obtain⟨u,v,rfl,hu,hv⟩:=oa ha;have hr:=WL hu;have hs:=zm7 (WL hv);simp only[al]at hr;obtain⟨nK,A,c,us,hA,hle,bX,fp⟩:=hr;obtain rfl:u = .slice A l.length c:=by simpa using hA
 simp only[O.u_]at hy;obtain⟨hb,gV⟩:=zf hy;clear hy;simp only[adL,jZ,eP,aeO]at hb;obtain⟨⟨kB,ly⟩,rfl⟩:=hb;simp only[adK]at gV;subst gV;obtain⟨e1,e2⟩:=zm8 (w:=w) (D:=D) bX;have fresh:∀{x:List UInt8}{w':World}{v':Value},x.length≤ai→Lib.FreshBytes w.heap.size w' v' x→Below w.heap.size w w'→hK D w (.sl .u8 x .eY) v' w':=by
  rintro x w' v' hx ⟨q,cap,zs,rfl,hq,sE,_,hz,pd,hzb,gU,_⟩ CK
  refine WN hc CK hx rfl sE fun h0=>⟨q,0,rfl,hq,fun j y hj => ?_⟩;have sJ:=(adO.1 hj).1;rw[aex,gU j (by omega)];have:(Lib.bytesOf (zs.take x.length))[j]? = some y:=by rw[hzb];exact hj
  unfold Lib.bytesOf at this;rw[List.getElem?_map,Option.map_eq_some_iff]at this;obtain⟨z,CG,rfl⟩:=this;rw[List.getElem?_take,if_pos sJ]at CG;have hzi:=pd z (aei CG);simp only[List.getD_eq_getElem?_getD,CG,afn];congr 2;simp[UInt8.toNat_ofNat'];omega
 have hlen:l.flatten.length≤ai:=by rw[zgi];simp only[ai];omega
 by_cases k7:l.length=0
 ·have aeE:=ad1 k7;subst aeE;obtain⟨t,h0⟩:=h0 A c v w;refine zx he (h0.mono fun e w' ⟨h1,h2⟩=>⟨_,h1,?_⟩);subst h2;exact WN (l:=[]) hc ((aea _ _).alloc (ael _) _) (by simp) rfl (by simp) (fun h=>by simp at h)
 ·obtain⟨b,o,rfl,gU⟩:=fp (by omega);by_cases ER:l.length=1
  ·obtain⟨x,rfl⟩:=List.length_eq_one_iff.1 ER;have pf:0<us.length:=by omega
   have hx:=e2 0 us[0] x (by simp) rfl;have tA:=(gU 0 us[0] (by simp)).2;simp only[al]at hx;obtain⟨_,A0,c0,us0,hA0,_,WO,Mj⟩:=hx;have aeF:us[0] = .slice A0 x.length c0:=by simpa using hA0
   rw[aeF]at tA;by_cases tO:x.length=0
   ·have aeG:=ad1 tO;subst aeG;refine zx he ((h1e b o c A0 c0 v w tA).mono fun e w' ⟨h1,h2⟩=>⟨_,h1,?_⟩);subst h2;exact WN (l:=[]) hc (aea _ _) (by simp) rfl (by simp) (fun h=>by simp at h)
   ·obtain⟨b0,o0,rfl,aeH⟩:=Mj (by omega);have:=h1 b o c ⟨b0,o0,none⟩ c0 x v w tA (fun i z hz=>by rw[mu];exact(aeH i _ (WM (w:=w) (D:=D) WO i z hz)).2) (by omega) (by simp[Lib.lens]at ly;omega);refine zx he (this.mono fun e w' ⟨v',h1,h2,h3⟩=>⟨_,h1,?_⟩);have:=fresh (by simpa using hlen) h2 h3;have e:[x].flatten=x:=by simp
    rw[e];exact this
  ·have hP:Lib.PartsAt w ⟨b,o,none⟩ us l:=⟨e1,fun i v hv=>by rw[mu];exact(gU i v hv).2,fun i v x hv hx=>zm7 (e2 i v x hv hx)⟩;have:=h2 b o l.length c us l v [] w rfl (by omega) hP hle hs kB ly;rw[zm9]at this;exact zx he (this.mono fun e w' ⟨v',h1,h2,h3⟩=>⟨_,h1,fresh hlen h2 h3⟩)
end
end Go.AM
namespace Go.AM
open Go.RowKit
namespace O
def itoa(n:Nat)(k:Int):Option (List UInt8):=bif decide (-9223372036854775808≤k)&&decide (k≤9223372036854775807)then some (Lib.itoa k)else none
def sQ(n:Nat)(k b:Int):Option (List UInt8):=bif decide (0≤k)&&decide (k<18446744073709551616)&&decide (b=10)then some (Lib.decDigits k.toNat)else none
def atoi(n:Nat)(s:List UInt8):Option (Int×Bool×Unit):=bif aeR s.length eP then match afd s with
 |.ok v=>some (v,false,())
 |.range=>some (Lib.atoiSat s,true,())
 |_=>some (0,true,())else none
def od(n:Nat)(s set:List UInt8):Option (List UInt8):=match set with
 |[c]=>bif aeQ c.toNat 128&&aeR s.length eP then some (afa s c)else none
 |_=>none
def sR(n:Nat)(s set:List UInt8):Option (List UInt8):=match set with
 |[c]=>bif aeQ c.toNat 128&&aeR s.length eP then some (afg s c)else none
 |_=>none
def repeat'(n:Nat)(s:List UInt8)(c:Int):Option (List UInt8):=bif decide (0≤c)&&aeR c.toNat eP&&aeR (s.length*c.toNat) eP then some (Lib.repeatL s c.toNat)else none
def va(n:Nat)(x y:Int):Option (Int×Int×Unit):=bif decide (0≤x∧x<18446744073709551616∧0≤y∧y<18446744073709551616)then some (((x.toNat*y.toNat / 18446744073709551616:Nat):Int),((x.toNat*y.toNat % 18446744073709551616:Nat):Int),())else none
def vb(n:Nat)(x y c:Int):Option (Int×Int×Unit):=bif decide (0≤x∧x<18446744073709551616∧0≤y∧y<18446744073709551616∧0≤c∧c≤1)then some ((((x.toNat+y.toNat+c.toNat) % 18446744073709551616:Nat):Int),(((x.toNat+y.toNat+c.toNat) / 18446744073709551616:Nat):Int),())else none
end O
section
variable {P:Program} {W:World→Prop} {g:Nat}
theorem zxa{P:Program}{g:Nat}{aj:Array Value}{w w':World}{v:Value}{R:Value→World→Prop}(h:(callFunc g aj).run P w = .ok (.value v) w')(hr:R v w'):my P g aj w R:=.inr ⟨v,w',h,hr⟩
theorem zuc{cs:ByteArray}{c:UInt8}(h:cs.data.toList=[c]):cs=⟨#[c]⟩:=by
 cases cs with
 |mk a=>cases a;simp at h;rw[h]
theorem z0z(he:Enters P g)(h:∀(k:Int),-9223372036854775808≤k→k≤9223372036854775807→∀w,W w→Calls P g #[.int .i64 k] w fun e w'=>e = .returned (.string ⟨(Lib.itoa k).toArray⟩)∧Below w.heap.size w w')(n:Nat) :
 kI P W g [.int .i64] (.one .str) (fun x=>O.itoa n x.1):=by
 rintro ⟨k,_⟩ y hy w D aj hw ha hc
 obtain⟨u,rfl,hu⟩:=C6 ha;obtain⟨rfl,_⟩:=zj hu;simp only[O.itoa]at hy;obtain⟨hb,gV⟩:=zf hy;clear hy;simp only[adL,decide_eq_true_eq]at hb;simp only[adK]at gV;subst gV;refine zx he ((h k hb.1 hb.2 w hw).mono fun e w' ⟨h1,h2⟩=>⟨_,h1,z8 rfl h2 hc (.str _ _ (by simp) ?_)⟩);have:=Lib.itoa_length_le k hb.1 hb.2;simp only[ai];omega
theorem zxb(he:Enters P g)(h:∀(k:Nat),k<18446744073709551616→∀w,W w→Calls P g #[.int .u64 k,.int .i64 10] w fun e w'=>e = .returned (.string ⟨(Lib.decDigits k).toArray⟩)∧Below w.heap.size w w')(n:Nat) :
 kI P W g [.int .u64,.int .i64] (.one .str) (fun x=>O.sQ n x.1 x.2.1):=by
 rintro ⟨k,b,_⟩ y hy w D aj hw ha hc
 obtain⟨u,v,rfl,hu,hv⟩:=oa ha;obtain⟨rfl,_⟩:=zj hu;obtain⟨rfl,_⟩:=zj hv;simp only[O.sQ]at hy;obtain⟨hb,gV⟩:=zf hy;clear hy;simp only[adL,decide_eq_true_eq]at hb;obtain⟨⟨h0,h1⟩,rfl⟩:=hb;simp only[adK]at gV;subst gV;obtain⟨q,rfl⟩:=ad7 h0;refine zx he ((h q (by omega) w hw).mono fun e w' ⟨h1,h2⟩=>⟨_,h1,z8 rfl h2 hc (.str _ _ (by simp) ?_)⟩);simp only[aew];have h3:Lib.nDigits q≤20:=by
  by_cases hq:1≤q
  ·have:=Lib.numDigits_eq q hq (by omega);split at this<;>omega
  ·have:q=0:=by omega
   subst this;simp[Lib.nDigits]
 rw[Lib.decDigits_length];simp only[ai];omega
theorem z00(he:Enters P g)(h0:∀(s:ByteArray),s.size≤140737488355328→∀v,afd s.data.toList = .ok v→∀w,W w→Calls P g #[.string s] w fun e w'=>e = .returned (.tuple #[.int .i64 v,.nilIface])∧Below w.heap.size w w')
 (h1:∀(s:ByteArray),s.size≤140737488355328→(∀v,afd s.data.toList ≠ .ok v)→afd s.data.toList ≠ .range→∀w,W w→Calls P g #[.string s] w fun e w'=>(∃t p,e = .returned (.tuple #[.int .i64 0,.iface t p]))∧Below w.heap.size w w')
 (h2:∀(s:ByteArray),s.size≤140737488355328→afd s.data.toList = .range→∀w,W w→Calls P g #[.string s] w fun e w'=>(∃t p,e = .returned (.tuple #[.int .i64 (Lib.atoiSat s.data.toList),.iface t p]))∧Below w.heap.size w w') (n:Nat) :
 kI P W g [.str] (.many [.int .i64,.err]) (fun x=>O.atoi n x.1):=by
 rintro ⟨s,_⟩ y hy w D aj hw ha hc
 obtain⟨u,rfl,hu⟩:=C6 ha;obtain⟨bs,rfl,iN,_⟩:=zq hu;have iN:bs.data.toList=s:=iN;simp only[O.atoi]at hy;obtain⟨hb,gV⟩:=zf hy;clear hy;simp only[jZ,eP]at hb;have dz:bs.size≤140737488355328:=by rw[qe,iN];exact hb
 have fin:∀{v:Int}{b:Bool}{e:Value}{w':World},(b=false∧e = .nilIface∨b=true∧∃t p,e = .iface t p)→Below w.heap.size w w'→hK D w (.cr [.int .i64 v,.err b]) (.tuple #[.int .i64 v,e]) w':=by
  intro v b e w' hh CK;refine z8 rfl CK hc (.cr _ _ rfl fun i x c hx oF => ?_)
  match i,hx,oF with
  |0,hx,oF=>simp at hx oF;subst hx;subst oF;exact .int _ _ (by simp)
  |1,hx,oF =>
   simp at hx oF;subst hx;subst oF;rcases hh with⟨rfl,rfl⟩ |⟨rfl,t,p,rfl⟩
   ·exact .jI
   ·exact .ky t p
  |i+2,hx,oF=>simp at hx
 split at gV
 ·rename_i v hv;simp only[adK]at gV;subst gV;exact zx he ((h0 bs dz v (by rw[iN];exact hv) w hw).mono fun e w' ⟨e1,e2⟩=>⟨_,e1,fin (.inl ⟨rfl,rfl⟩) e2⟩)
 ·rename_i hv;simp only[adK]at gV;subst gV;have:=h2 bs dz (by rw[iN];exact hv) w hw;rw[iN]at this;exact zx he (this.mono fun e w' ⟨⟨t,p,e1⟩,e2⟩=>⟨_,e1,fin (.inr ⟨rfl,t,p,rfl⟩) e2⟩)
 ·rename_i n1 n2;simp only[adK]at gV;subst gV;exact zx he ((h1 bs dz (fun v=>by rw[iN];exact n1 v) (by rw[iN];exact n2) w hw).mono fun e w' ⟨⟨t,p,e1⟩,e2⟩=>⟨_,e1,fin (.inr ⟨rfl,t,p,rfl⟩) e2⟩)
theorem zud(s:List UInt8)(c:UInt8):(afg s c).length≤s.length:=by unfold afg;exact(List.dropWhile_sublist _).length_le
theorem zue(s:List UInt8)(c:UInt8):(afa s c).length≤s.length:=by unfold afa;have:=(List.dropWhile_sublist (p:=fun b=>b==c) (l:=s.reverse)).length_le;simpa using this
theorem zxc(he:Enters P g)(h:∀(s:ByteArray)(c:UInt8),c.toNat<128→∀w,s.size≤9223372036854775807→Calls P g #[.string s,.string ⟨#[c]⟩] w fun e w'=>e = .returned (.string ⟨(afa s.data.toList c).toArray⟩)∧w'=w)(n:Nat) :
 kI P W g [.str,.str] (.one .str) (fun x=>O.od n x.1 x.2.1):=by
 rintro ⟨s,set,_⟩ y hy w D aj hw ha hc
 obtain⟨u,v,rfl,hu,hv⟩:=oa ha;obtain⟨bs,rfl,iN,hm⟩:=zq hu;obtain⟨cs,rfl,dy,_⟩:=zq hv;have iN:bs.data.toList=s:=iN;have hm:s.length≤ai:=hm;simp only[O.od]at hy;by_cases tS:∃c,set=[c]
 ·obtain⟨c,rfl⟩:=tS;obtain rfl:=zuc dy;simp only at hy;obtain⟨hb,gV⟩:=zf hy;clear hy;simp only[adL,eV,jZ,eP]at hb;simp only[adK]at gV;subst gV;have dz:bs.size=List.length s:=by rw[qe,iN]
  refine zx he ((h bs c hb.1 w (by omega)).mono fun e w' ⟨h1,h2⟩=>⟨_,h1,?_⟩);subst h2;rw[iN];have:=zue s c;exact z8 rfl (aea _ _) hc (.str _ _ (by simp) (by omega))
 ·split at hy
  ·exact absurd ⟨_,rfl⟩ tS
  ·cases hy
theorem zxd(he:Enters P g)(h:∀(s:ByteArray)(c:UInt8),c.toNat<128→∀w,Calls P g #[.string s,.string ⟨#[c]⟩] w fun e w'=>e = .returned (.string ⟨(afg s.data.toList c).toArray⟩)∧w'=w)(n:Nat) :
 kI P W g [.str,.str] (.one .str) (fun x=>O.sR n x.1 x.2.1):=by
 rintro ⟨s,set,_⟩ y hy w D aj hw ha hc
 obtain⟨u,v,rfl,hu,hv⟩:=oa ha;obtain⟨bs,rfl,iN,hm⟩:=zq hu;obtain⟨cs,rfl,dy,_⟩:=zq hv;have iN:bs.data.toList=s:=iN;have hm:s.length≤ai:=hm;simp only[O.sR]at hy;by_cases tS:∃c,set=[c]
 ·obtain⟨c,rfl⟩:=tS;obtain rfl:=zuc dy;simp only at hy;obtain⟨hb,gV⟩:=zf hy;clear hy;simp only[adL,eV,jZ,eP]at hb;simp only[adK]at gV;subst gV;refine zx he ((h bs c hb.1 w).mono fun e w' ⟨h1,h2⟩=>⟨_,h1,?_⟩);subst h2;rw[iN];have:=zud s c;exact z8 rfl (aea _ _) hc (.str _ _ (by simp) (by omega))
 ·split at hy
  ·exact absurd ⟨_,rfl⟩ tS
  ·cases hy
theorem zuf(he:Enters P g)(h:∀(s:ByteArray)(c:Nat)(w:World),c≤9223372036854775807→s.size*c≤140737488355328→Calls P g #[.string s,.int .i64 c] w fun e w'=>e = .returned (.string ⟨(Lib.repeatL s.data.toList c).toArray⟩)∧Below w.heap.size w w')(n:Nat) :
 kI P W g [.str,.int .i64] (.one .str) (fun x=>O.repeat' n x.1 x.2.1):=by
 rintro ⟨s,c,_⟩ y hy w D aj hw ha hc
 obtain⟨u,v,rfl,hu,hv⟩:=oa ha;obtain⟨bs,rfl,iN,hm⟩:=zq hu;obtain⟨rfl,_⟩:=zj hv;have iN:bs.data.toList=s:=iN;simp only[O.repeat']at hy;obtain⟨hb,gV⟩:=zf hy;clear hy;simp only[adL,jZ,eP,decide_eq_true_eq]at hb;obtain⟨⟨h0,h1⟩,h2⟩:=hb;simp only[adK]at gV;subst gV;obtain⟨q,rfl⟩:=ad7 h0;simp only[ae2,aew]at h1 h2 ⊢;have dz:bs.size=List.length s:=by rw[qe,iN]
 have:=h bs q w (by omega) (by rw[dz];exact h2);rw[iN]at this;refine zx he (this.mono fun e w' ⟨e1,e2⟩=>⟨_,e1,z8 rfl e2 hc (.str _ _ (by simp) ?_)⟩);rw[Lib.repeatL_length];simp only[ai];rw[Nat.mul_comm];omega
theorem zna{w:World}{G:GS}{a b:Int}:af w G (.tuple #[.int .u64 a,.int .u64 b]) (.cr [.int .u64 a,.int .u64 b]):=by
 refine .cr _ _ rfl fun i x c hx oF => ?_
 match i,hx,oF with
 |0,hx,oF=>simp at hx oF;subst hx;subst oF;exact .int _ _ (by simp)
 |1,hx,oF=>simp at hx oF;subst hx;subst oF;exact .int _ _ (by simp)
 |i+2,hx,oF=>simp at hx
theorem zxe(he:Enters P g)(h:∀(x y:Nat),x<18446744073709551616→y<18446744073709551616→∀w,Calls P g #[.int .u64 x,.int .u64 y] w fun e w'=>e = .returned (.tuple #[.int .u64 ((x*y / 18446744073709551616:Nat):Int),.int .u64 ((x*y % 18446744073709551616:Nat):Int)])∧w'=w)(n:Nat) :
 kI P W g [.int .u64,.int .u64] (.many [.int .u64,.int .u64]) (fun x=>O.va n x.1 x.2.1):=by
 rintro ⟨x,y',_⟩ y hy w D aj hw ha hc
 obtain⟨u,v,rfl,hu,hv⟩:=oa ha;obtain⟨rfl,_⟩:=zj hu;obtain⟨rfl,_⟩:=zj hv;simp only[O.va]at hy;obtain⟨hb,gV⟩:=zf hy;clear hy;simp only[decide_eq_true_eq]at hb;obtain⟨tO,oJ,GX,xM⟩:=hb;obtain⟨p,rfl⟩:=ad7 tO;obtain⟨q,rfl⟩:=ad7 GX;simp only[ae2,aew,adK]at gV;subst gV;refine zx he ((h p q (by omega) (by omega) w).mono fun e w' ⟨h1,h2⟩=>⟨_,h1,?_⟩);subst h2;exact z8 rfl (aea _ _) hc zna
theorem zxf(h:∀(x y c:Nat),x<18446744073709551616→y<18446744073709551616→c≤1→∀w,(callFunc g #[.int .u64 x,.int .u64 y,.int .u64 c]).run P w = .ok (.value (.tuple #[.int .u64 (((x+y+c) % 18446744073709551616:Nat):Int),.int .u64 (((x+y+c) / 18446744073709551616:Nat):Int)])) w)(n:Nat) :
 kI P W g [.int .u64,.int .u64,.int .u64] (.many [.int .u64,.int .u64]) (fun x=>O.vb n x.1 x.2.1 x.2.2.1):=by
 rintro ⟨x,y',c,_⟩ y hy w D aj hw ha hc
 obtain⟨u,v,z,rfl,hu,hv,hz⟩:=WJ ha;obtain⟨rfl,_⟩:=zj hu;obtain⟨rfl,_⟩:=zj hv;obtain⟨rfl,_⟩:=zj hz;simp only[O.vb]at hy;obtain⟨hb,gV⟩:=zf hy;clear hy;simp only[decide_eq_true_eq]at hb;obtain⟨tO,oJ,GX,xM,tA,hc1⟩:=hb;obtain⟨p,rfl⟩:=ad7 tO;obtain⟨q,rfl⟩:=ad7 GX;obtain⟨r,rfl⟩:=ad7 tA;simp only[ae2,aew,adK]at gV;subst gV;exact zxa (h p q r (by omega) (by omega) (by omega) w) (z8 rfl (aea _ _) hc zna)
theorem zi1{w:World}(k:Nat)(os:Array Obj):Below w.heap.size w (ae3 (w.drewN k) os):=⟨rfl,rfl,rfl,by simp[ae3,World.drewN],fun j hj=>by simp only[ae3,World.drewN];rw[aep hj]⟩
theorem zph{w:World}{t:TypeId}{s:ByteArray}:Below w.heap.size w (afb w t s):=⟨by unfold afb World.freeze;split<;>rfl,by unfold afb World.freeze;split<;>rfl,by unfold afb World.freeze;split<;>rfl,by rw[Lib.bytesWorld_size];omega,fun j hj=>Lib.bytesWorld_at_old w t s j hj⟩
theorem z3y{w0 w:World}{name:String}{k:IntKind}{zs:List Int}(h:Lib.TabIs P w0 name k zs)(hs:w0.heap.size≤w.heap.size)(hb:Below w0.heap.size w0 w):Lib.TabIs P w name k zs:=Lib.tabBelow_of_tabIs h w hb
theorem zqo{w0 w:World}{b:Nat}{v:Value}(h:w0.cell? ⟨b,0,none⟩=some v)(hb:Below w0.heap.size w0 w):w.cell? ⟨b,0,none⟩=some v:=by rw[hb.cell (p:=⟨b,0,none⟩) (Mi h)];exact h
end
end Go.AM
namespace Go.AM
open Go.MapKept Go.RowKit
theorem WQ(key:Int):∀(es:List MapEntry)(i:Nat),(∀x∈es,∃n,x.key = .int .i64 n∧n≠key)→Instr.findNow (.int .i64) (.int .i64 key) es i=some none
 |[],_,_=>rfl
 |e::es,i,h=>by
  obtain⟨n,h1,h2⟩:=h e (by simp);have:(key==n)=false:=by simpa using fun h=>h2 h.symm
  simp only[Instr.findNow,h1,Instr.sameNow,if_true,this];exact WQ key es (i+1) (fun x hx=>h x (by simp[hx]))
theorem WR(w:World)(o:Obj):(w.alloc o).heap[w.heap.size]? = some o:=by show(w.heap.push o)[w.heap.size]? = _;simp
theorem z01(w:World)(o o':Obj):({ w.alloc o with heap:=(w.alloc o).heap.setIfInBounds w.heap.size o' }:World)=w.alloc o':=by
 show({ w with heap:=(w.heap.push o).setIfInBounds w.heap.size o' }:World)={ w with heap:=w.heap.push o' };congr 1;refine Array.ext_getElem? fun i => ?_;rw[Array.getElem?_setIfInBounds,Array.getElem?_push,Array.getElem?_push];by_cases h:i=w.heap.size
 ·subst h;simp
 ·simp[h,afk h]
theorem zfo{P:Program}{t k e:TypeId}(ht:P.underlying t=some (.map k e))(hk:P.underlying k=some (.int .i64))(w:World)(es:Array MapEntry)(c:Nat)(key:Int)(v:Value)(BL:∀x∈es.toList,∃n,x.key = .int .i64 n∧n≠key) :
 (Instr.mapUpdate t (.map (some w.heap.size)) (.int .i64 key) v).run P (w.alloc (.map es c)) = .ok () (w.alloc (.map (es.push { key:=.int .i64 key,val:=v,born:=c }) (c+1))):=by
 have hb:=WR w (.map es c);have hf:=WQ key es.toList 0 BL;have hc:∀w',(aft false 10000 k (.int .i64 key)).run P w' = .ok () w':=fun w'=>run_checkKey hk (by simp[IsKey]) false 9999;have tL:∀w',(aeA k (.int .i64 key) es.toList).run P w' = .ok none w':=fun w'=>by simp only[aeA,ad8,run_underlying hk,ad0,hf];rfl
 have hs:=run_setObj_map (P:=P) (.map (es.push { key:=.int .i64 key,val:=v,born:=c }) (c+1)) hb;rw[z01]at hs;simp only[Instr.mapUpdate,ad8,run_underlying ht,ad0,aeD hb,hc,tL,hs]
theorem Mk{P:Program}{t k e:TypeId}(ht:P.underlying t=some (.map k e))(hk:P.underlying k=some (.int .i64))(w:World)(es:Array MapEntry)(c:Nat)(key:Int){i:Nat}{v:Value}(hf:Instr.findNow (.int .i64) (.int .i64 key) es.toList 0=some (some (i,v)))(he:es.isEmpty=false) :
 (afo t (.map (some w.heap.size)) (.int .i64 key) true).run P (w.alloc (.map es c)) = .ok (.tuple #[v,.bool true]) (w.alloc (.map es c)):=by
 have hb:=WR w (.map es c);have hc:∀b w',(aft b 10000 k (.int .i64 key)).run P w' = .ok () w':=fun b w'=>run_checkKey hk (by simp[IsKey]) b 9999;have tL:∀w',(aeA k (.int .i64 key) es.toList).run P w' = .ok (some (i,v)) w':=fun w'=>by simp only[aeA,ad8,run_underlying hk,ad0,hf];rfl
 simp only[afo,ad8,run_underlying ht,ad0,aeD hb,hc,tL,aeK,if_true]
theorem zl5{P:Program}{t k e:TypeId}(ht:P.underlying t=some (.map k e))(hk:P.underlying k=some (.int .i64))(w:World)(es:Array MapEntry)(c:Nat)(key:Int)(BL:∀x∈es.toList,∃n,x.key = .int .i64 n∧n≠key){z:Value}(hz:∀w',(zeroValue e).run P w' = .ok z w') :
 (afo t (.map (some w.heap.size)) (.int .i64 key) true).run P (w.alloc (.map es c)) = .ok (.tuple #[z,.bool false]) (w.alloc (.map es c)):=by
 have hb:=WR w (.map es c);have hf:=WQ key es.toList 0 BL;have hc:∀b w',(aft b 10000 k (.int .i64 key)).run P w' = .ok () w':=fun b w'=>run_checkKey hk (by simp[IsKey]) b 9999;have tL:∀w',(aeA k (.int .i64 key) es.toList).run P w' = .ok none w':=fun w'=>by simp only[aeA,ad8,run_underlying hk,ad0,hf];rfl
 simp only[afo,ad8,run_underlying ht,ad0,aeD hb,hc,tL,aeK,if_true,hz]
def jx:Array MapEntry:=#[⟨.int .i64 1,.string ⟨#[99]⟩,0⟩,⟨.int .i64 2,.string ⟨#[103]⟩,1⟩,⟨.int .i64 3,.string ⟨#[109,115]⟩,2⟩,⟨.int .i64 4,.string ⟨#[104]⟩,3⟩]
theorem zk6{w:World}(o:Obj):Below w.heap.size w (w.alloc o):=(aea _ _).alloc (ael _) o
def fL(k:Int):List UInt8:=if k=1 then[99]else if k=2 then[103]else if k=3 then[109,115]else if k=4 then[104]else[]
def np(k:Int):Int:=if k=1∨k=2∨k=3∨k=4 then 0 else 16
def O.word(n:Nat)(k:Int):Option (List UInt8×Int×Unit):=some (fL k,np k,())
theorem zug(k:Int):(fL k).length≤ai:=by
 have:(fL k).length≤2:=by
  unfold fL
  repeat (first|split|decide)
 simp only[ai];omega
theorem z02{w:World}{G:GS}{l:List UInt8}{n:Int}(hl:l.length≤ai):af w G (.tuple #[.string ⟨l.toArray⟩,.int .i64 n]) (.cr [.str l,.int .i64 n]):=by
 refine .cr _ _ rfl fun i v c hv hc => ?_
 match i,hv,hc with
 |0,hv,hc =>simp only[List.getElem?_toArray,aer,adK]at hv hc;subst hv;subst hc;exact .str _ _ (by simp) hl
 |1,hv,hc =>simp only[List.getElem?_toArray,List.getElem?_cons_succ,aer,adK]at hv hc;subst hv;subst hc;exact .int _ _ (by intro h;cases h)
 |i+2,hv,hc=>simp at hc
theorem z03{P:Program}{W:World→Prop}{g:Nat}(he:Enters P g)(h:∀(k:Int)(w:World),Calls P g #[.int .i64 k] w fun e w'=>e = .returned (.tuple #[.string ⟨(fL k).toArray⟩,.int .i64 (np k)])∧Below w.heap.size w w')(n:Nat) :
 kI P W g [.int .i64] (.many [.str,.int .i64]) (fun x=>O.word n x.1):=by
 rintro ⟨k,_⟩ y hy w D aj hw ha hc
 obtain⟨u,rfl,hu⟩:=C6 ha;obtain⟨rfl,_⟩:=zj hu;simp only[O.word,adK]at hy;subst hy;exact zx he ((h k w).mono fun e w' ⟨h1,h2⟩=>⟨_,h1,z8 rfl h2 hc (z02 (zug k))⟩)
end Go.AM
namespace Go.AM
open Go.RowKit
def bj(c:UInt8):List UInt8→List (List UInt8)
 |[]=>[[]]
 |x::s=>if x=c then[]::bj c s else match bj c s with
  |p::ps=>(x::p)::ps
  |[]=>[[x]]
theorem xR(c:UInt8)(s:List UInt8):bj c s≠[]:=by
 cases s with
 |nil=>simp[bj]
 |cons x s =>
  simp only[bj];split
  ·simp
  ·split<;>simp
namespace O
def mN(n:Nat)(s sep:List UInt8):Option (List (List UInt8)):=match sep with
 |[c]=>bif decide (s.length<4294967281)then some (bj c s)else none
 |_=>none
end O
theorem WS(c:UInt8):∀(s:List UInt8),c∉s→bj c s=[s]
 |[],_=>rfl
 |x::s,h=>by simp only[adR,not_or]at h;simp only[bj];rw[if_neg (fun e=>h.1 e.symm),WS c s h.2]
theorem zi2(c:UInt8):∀(p s:List UInt8),c∉p→bj c (p++c::s)=p::bj c s
 |[],s,_=>by simp[bj]
 |x::p,s,h=>by simp only[adR,not_or]at h;simp only[aeq,bj];rw[if_neg (fun e=>h.1 e.symm),zi2 c p s h.2]
theorem zfp(c:UInt8):∀(p q:List UInt8),c∉p→ad4 (p++c::q) c=p.length
 |[],q,_=>by simp[ad4]
 |x::p,q,h=>by simp only[adR,not_or]at h;have ih:=zfp c p q h.2;simp only[aeq,ad4,ih];rw[if_neg (by simpa using fun e=>h.1 e.symm),if_neg (by simp only[beq_iff_eq];omega)];rfl
theorem vT(c:UInt8):∀(k:Nat)(s:List UInt8),s.count c=k→Lib.splitK [c] 0 k s=bj c s
 |0,s,h=>by rw[WS c s (List.count_eq_zero.1 h)];rfl
 | k + 1,s,h=>by
  have hm:c∈s:=List.count_pos_iff.1 (by omega);obtain⟨p,q,rfl,hp⟩:∃p q,s=p++c::q∧c∉p:=by
   clear h;induction s with
   |nil=>simp at hm
   | cons x s ih =>
    by_cases hx:x=c
    ·exact⟨[],s,by simp[hx],by simp⟩
    ·rcases adR.1 hm with e|hm
     ·exact absurd e.symm hx
     ·obtain⟨p,q,rfl,hp⟩:=ih hm;exact⟨x::p,q,rfl,by simp only[adR,not_or];exact⟨fun e=>hx e.symm,hp⟩⟩
  have hi:Lib.index (p++c::q) [c]=p.length:=by rw[Lib.index_one,zfp c p q hp]
  have hq:q.count c=k:=by rw[List.count_append,List.count_eq_zero.2 hp,List.count_cons_self]at h;omega
  simp only[Lib.splitK,hi];rw[if_neg (by simp only[beq_iff_eq];omega),zi2 c p q hp];simp only[aew,Nat.add_zero,aeb,List.length_nil,aex];rw[show(p++c::q).take p.length=p from by simp,show(p++c::q).drop (p.length+1)=q from by simp,vT c k q hq]
section
variable {P:Program} {W:World→Prop} {g:Nat}
theorem znb{w:World}{D:Nat→Nat→Prop}:∀(l:List ByteArray),(∀b∈l,b.data.toList.length≤ai)→bf (fun(x:List UInt8) us=>al w D .str x us) (l.map (·.data.toList)) (l.map aej)
 |[],_=>rfl
 |x::l,h=>⟨[.string x],l.map aej,rfl,by simp only[al];exact⟨h x (by simp),x,rfl,rfl⟩,znb l fun b hb=>h b (by simp[hb])⟩
theorem Ml(c:UInt8):∀(s p:List UInt8),p∈bj c s→p.length≤s.length
 |[],p,h=>by simp[bj]at h;simp[h]
 | x :: s,p,h=>by
  simp only[bj]at h;split at h
  ·rcases adR.1 h with rfl|h
   ·simp
   ·have:=Ml c s p h;simp;omega
  ·split at h
   ·rename_i q qs e;rcases adR.1 h with rfl|h
    ·have:=Ml c s q (by rw[e];simp);simp;omega
    ·have:=Ml c s p (by rw[e];simp[h]);simp;omega
   ·rename_i e;exact absurd e (xR c s)
theorem zi3(c:UInt8):∀(s:List UInt8),(bj c s).length=s.count c+1
 |[]=>rfl
 | x :: s=>by
  have ih:=zi3 c s;simp only[bj];split
  ·rename_i e;rw[e,List.count_cons_self,aeb,ih]
  ·rename_i c_;split
   ·rename_i p ps e;rw[e]at ih;rw[List.count_cons_of_ne (by simpa using c_),aeb,←aeb (a:=p),ih]
   ·rename_i e;exact absurd e (xR c s)
theorem zuh(he:Enters P g)(h:∀(s:ByteArray)(c:UInt8)(w:World),s.size<4294967281→Calls P g #[.string s,.string ⟨#[c]⟩] w fun e w'=>∃(l:List ByteArray)(t:TypeId),e = .returned (.slice (some ⟨w.heap.size,0,none⟩) l.length l.length)∧w'=w.alloc (.cells (l.map aej).toArray t)∧l.map (·.data.toList)=bj c s.data.toList)(n:Nat) :
 kI P W g [.str,.str] (.one (.sl .str .eY)) (fun x=>O.mN n x.1 x.2.1):=by
 intro x y hy w D aj hw hr hc;obtain⟨s,sep,u⟩:=x;obtain⟨v1,v2,rfl,h1,h2⟩:=oa hr;obtain⟨bs,rfl,iN,LC⟩:=zq h1;obtain⟨bp,rfl,hbp,aeT⟩:=zq h2;clear aeT;simp only[O.mN]at hy;split at hy
 ·rename_i c;have dz:=(zf hy).1;have gV:=(zf hy).2;simp only[decide_eq_true_eq]at dz;obtain rfl:=adP gV;have aeU:bp=⟨#[c]⟩:=by apply ByteArray.ext;apply afu;simpa using hbp
  subst aeU;refine zx he ((h bs c w (by rw[qe,iN];exact dz)).mono ?_)
  rintro e w' ⟨l,t,rfl,rfl,hl⟩
  rw[iN]at hl;refine⟨_,rfl,?_⟩
  have bX:∀(w2:World)(D2:Nat→Nat→Prop),bf (fun(x:List UInt8) us=>al w2 D2 .str x us) (bj c s) (l.map aej):=by
   intro w2 D2
   have hr:=znb (w:=w2) (D:=D2) l fun b hb=>by
    have hx:b.data.toList∈bj c s:=by rw[←hl];exact afm.2 ⟨b,hb,rfl⟩
    have h1:=Ml c s _ hx;have h2:(4294967281:Nat)≤ai:=by decide
    omega
   rw[hl]at hr;exact hr
  have hb:Below w.heap.size w (w.alloc (.cells (l.map aej).toArray t)):=(aea _ _).alloc (ael _) _;have eM:(w.alloc (.cells (l.map aej).toArray t)).heap[w.heap.size]? = some (.cells (l.map aej).toArray t (0,0)):=aeg w _;refine WH (D':=fun b o=>D b o∨(w.heap.size≤b∧∃u,(w.alloc (.cells (l.map aej).toArray t)).cell? ⟨b,o,none⟩=some u)) rfl hb (fun b o h => .inl h) (fun b o h => ?_) (fun b o h=>h.elim .inl fun h => .inr h.1) ?_
  ·rcases h with h|h
   ·obtain⟨u,hu⟩:=hc b o h;exact⟨u,by rw[hb.cell (p:=⟨b,o,none⟩) (Mi hu)];exact hu⟩
   ·exact h.2
  ·have hlen:(bj c s).length=l.length:=by rw[←hl];simp
   refine .sl _ _ _ _ ?_ trivial;simp only[al];have aBl:(bj c s).length≤s.length+1:=by rw[zi3];have:=List.count_le_length (a:=c) (l:=s);omega
   have tI:(4294967281:Nat)≤ai:=by decide
   refine⟨by omega,some ⟨w.heap.size,0,none⟩,l.length,l.map aej,by rw[hlen],by omega,?_,fun _=>⟨w.heap.size,0,rfl,fun j u hj => ?_⟩⟩
   ·have hr:=bX default (fun _ _=>True);simp only[al]at hr;exact hr
   ·have fp:(w.alloc (.cells (l.map aej).toArray t)).cell? ⟨w.heap.size,0+j,none⟩=some u:=by rw[aex,zy eM];simpa using hj
    exact⟨.inr ⟨ael _,u,fp⟩,fp⟩
 ·cases hy
end
end Go.AM
namespace Go.AM
open Go.RowKit
namespace O
def indexB(n:Nat)(s:List UInt8)(c:Int):Option Int:=some (ad4 s c.toNat.toUInt8)
end O
theorem zui{P:Program}{W:World→Prop}{g:Nat}(he:Enters P g)(h:∀(s:ByteArray)(c:Int)(w:World),Calls P g #[.string s,.int .u8 c] w fun e w'=>e = .returned (.int .i64 (ad4 s.data.toList c.toNat.toUInt8))∧w'=w)(n:Nat) :
 kI P W g [.str,.int .u8] (.one (.int .i64)) (fun x=>O.indexB n x.1 x.2.1):=by
 rintro ⟨s,c,_⟩ y hy w D aj hw ha hc
 obtain⟨u,v,rfl,hu,hv⟩:=oa ha;obtain⟨bs,rfl,iN,_⟩:=zq hu;obtain⟨rfl,_⟩:=zj hv;simp only[O.indexB,adK]at hy;subst hy;refine zx he ((h bs c w).mono fun e w' ⟨h1,h2⟩=>⟨_,h1,?_⟩);subst h2;have iN:bs.data.toList=s:=iN;rw[iN];exact z8 rfl (aea _ _) hc (.int _ _ (by simp))
namespace O
end O
end Go.AM
namespace Go.AM
abbrev hQ:=List UInt8×List UInt8
theorem WT(a b:UInt8)(x y:List UInt8):adV (a::x) (b::y)=(decide (a<b)||((a==b)&&adV x y)):=rfl
theorem Mm:∀l:List UInt8,adV l l=false
 |[]=>rfl
 |b::l=>by rw[WT,Mm l];simp
theorem z0e{a b:UInt8}:a<b↔a.toNat<b.toNat:=UInt8.lt_iff_toNat_lt
theorem WU{a b:UInt8}:a=b↔a.toNat=b.toNat:=⟨fun h=>by rw[h],fun h=>UInt8.toNat_inj.1 h⟩
theorem WV:∀a b c:List UInt8,adV a b=true→adV b c=true→adV a c=true
 |_,[],c,h,_=>by simp[adV]at h
 |_,_::_,[],_,h=>by simp[adV]at h
 |[],_::_,_::_,_,_=>rfl
 |x::a,y::b,z::c,h1,h2=>by
  rw[WT]at h1 h2 ⊢;simp only[aem,adL,decide_eq_true_eq,beq_iff_eq,z0e,WU]at h1 h2 ⊢;rcases h1 with h1|⟨h1,h3⟩<;>rcases h2 with h2|⟨h2,h4⟩
  ·left;omega
  ·left;omega
  ·left;omega
  ·right;exact⟨by omega,WV a b c h3 h4⟩
theorem WW:∀a b:List UInt8,adV a b=false→adV b a=false→a=b
 |[],[],_,_=>rfl
 |[],_::_,h,_=>by simp[adV]at h
 |_::_,[],_,h=>by simp[adV]at h
 | x :: a,y::b,h1,h2=>by
  rw[WT]at h1 h2;simp only[Bool.or_eq_false_iff,Bool.and_eq_false_iff,decide_eq_false_iff_not,beq_eq_false_iff_ne,ne_eq,z0e,WU]at h1 h2;have e:x=y:=WU.2 (by omega);subst e;rcases h1.2 with h|h
  ·exact absurd rfl h
  ·rcases h2.2 with k|k
   ·exact absurd rfl k
   ·rw[WW a b h k]
def iB(a b:hQ):Bool:=if a.1=b.1 then adV a.2 b.2 else adV a.1 b.1
theorem Mn(a:hQ):iB a a=false:=by simp[iB,Mm]
theorem Mo{a b c:hQ}(h1:iB a b=true)(h2:iB b c=true):iB a c=true:=by
 unfold iB at *;by_cases e1:a.1=b.1
 ·rw[if_pos e1]at h1;by_cases e2:b.1=c.1
  ·rw[if_pos e2]at h2;rw[if_pos (e1.trans e2)];exact WV _ _ _ h1 h2
  ·rw[if_neg e2]at h2;rw[if_neg (fun e=>e2 (e1.symm.trans e)),e1];exact h2
 ·rw[if_neg e1]at h1;by_cases e2:b.1=c.1
  ·rw[if_neg (fun e=>e1 (e.trans e2.symm)),←e2];exact h1
  ·rw[if_neg e2]at h2;have h3:=WV _ _ _ h1 h2;rw[if_neg (fun e=>by rw[e,Mm]at h3;cases h3)];exact h3
theorem Mp{a b:hQ}(h1:iB a b=false)(h2:iB b a=false):a=b:=by
 unfold iB at *;by_cases e1:a.1=b.1
 ·rw[if_pos e1]at h1;rw[if_pos e1.symm]at h2;exact Prod.ext e1 (WW _ _ h1 h2)
 ·rw[if_neg e1]at h1;rw[if_neg (fun e=>e1 e.symm)]at h2;exact absurd (WW _ _ h1 h2) e1
theorem zk7{a b:hQ}(h:iB a b=true):iB b a=false:=by
 cases hb:iB b a with
 |false=>rfl
 |true=>have:=Mo h hb;rw[Mn]at this;cases this
theorem zi4{a b c:hQ}(h1:iB a b=false)(h2:iB b c=false):iB a c=false:=by
 cases hc:iB a c with
 |false=>rfl
 |true =>
  cases hb:iB b a with
  |true=>have:=Mo hb hc;rw[this]at h2;cases h2
  |false =>have:=Mp h1 hb;subst this;rw[hc]at h2;cases h2
def xS(t:hQ):List hQ→List hQ
 |[]=>[t]
 |x::xs=>if iB x t then x::xS t xs else t::x::xs
def cy(l:List hQ):List hQ:=l.foldr xS []
theorem WX(t:hQ):∀l,(xS t l).Perm (t::l)
 |[] => .refl _
 |x::xs=>by
  simp only[xS];split
  ·exact((WX t xs).cons x).trans (.swap t x xs)
  ·exact .refl _
theorem yK:∀l,(cy l).Perm l
 |[] => .refl _
 |x::l=>(WX x _).trans ((yK l).cons x)
theorem yL(l:List hQ):(cy l).length=l.length:=(yK l).length_eq
def lR(l:List hQ):Prop:=l.Pairwise fun a b=>iB b a=false
theorem zhj(t:hQ):∀l,lR l→lR (xS t l)
 |[],_=>by simp[xS,lR]
 | x :: xs,h=>by
  obtain⟨h1,h2⟩:=aec.1 h;simp only[xS];split
  ·rename_i hx;refine aec.2 ⟨fun y hy => ?_,zhj t xs h2⟩;rcases adR.1 ((WX t xs).mem_iff.1 hy)with rfl|hy
   ·exact zk7 hx
   ·exact h1 y hy
  ·rename_i hx;have hx:iB x t=false:=by simpa using hx
   refine aec.2 ⟨fun y hy => ?_,h⟩;rcases adR.1 hy with rfl|hy
   ·exact hx
   ·exact zi4 (h1 y hy) hx
theorem AD:∀l,lR (cy l)
 |[] => .nil
 |x::l=>zhj x _ (AD l)
theorem zfq:∀(l m:List hQ),l.Perm m→lR l→lR m→l=m
 |[],m,h,_,_=>by rw[List.nil_perm.1 h]
 |x::l,[],h,_,_=>by have:=h.length_eq;simp at this
 | x :: l,y::m,h,h1,h2=>by
  obtain⟨a1,a2⟩:=aec.1 h1;obtain⟨b1,b2⟩:=aec.1 h2;have hx:x∈y::m:=h.mem_iff.1 (by simp);have hy:y∈x::l:=h.mem_iff.2 (by simp);have e:x=y:=by
   rcases adR.1 hx with e|hx
   ·exact e
   ·rcases adR.1 hy with e|hy
    ·exact e.symm
    ·exact Mp (b1 x hx) (a1 y hy)
  subst e;rw[zfq l m (List.Perm.cons_inv h) a2 b2]
end Go.AM
namespace Go.AM
open Go.RowKit
def AE(P:Program)(l:List (String×DataW Unit))(w:World):Prop:=laidMetH P l w∧w.ShapedOpen P
section
variable {P:Program} {w:World} {l:List (String×DataW Unit)}
theorem zi5(h:AE P l w)(hn:(l.filter fun x=>x.2.handleName?.isSome).isEmpty=true){n:String}{d:DataW Unit}(hm:(n,d)∈l):Lib.VarReads P w n d:=by have h1:=h.1;unfold laidMetH at h1;rw[aeO.1 hn]at h1;exact Lib.laidMet.reads h1 hm
theorem zxg(h:AE P l w)(hn:(l.filter fun x=>x.2.handleName?.isSome).isEmpty=true){n:String}{k:IntKind}{zs:List Int}(i:Nat)(hm:l[i]? = some (n,Lib.tabData k zs)){g:Nat}{t e:TypeId}{m:Nat}
 (hg:P.globalNamed n=some g) (jd:(P.globals[g]?).map (·.type)=some t) (ht:P.underlying t=some (.array m e)) (he:P.underlying e=some (.int k)) (hce:P.cellsOf e=1) (Hk:P.cellsOf t=m):Lib.TabIs P w n k zs:=by
 obtain⟨g',t',cs,fuel,p,pb,jF,Hl,hd⟩:=zi5 h hn (aei hm);obtain rfl:=adP (hg.symm.trans pb);obtain rfl:=adP (jd.symm.trans jF);unfold Lib.TabIs;rw[Hl,←Lib.cells_of_tab ht he hce Hk hd]
theorem zi6(h:AE P l w)(hn:(l.filter fun x=>x.2.handleName?.isSome).isEmpty=true){n nm:String}{d:DataW Unit}(i:Nat)(hm:l[i]? = some (n,.iface nm d)){g:Nat}{t:TypeId}{ms:Array (String×TypeId)}
 (hg:P.globalNamed n=some g) (jd:(P.globals[g]?).map (·.type)=some t) (ht:P.underlying t=some (.interface ms)):∃ev,w.cell? ⟨g,0,none⟩=some ev∧(ev = .nilIface∨∃te pe,ev = .iface te pe):=by
 obtain⟨g',t',cs,fuel,p,pb,jF,Hl,hd⟩:=zi5 h hn (aei hm);obtain rfl:=adP (hg.symm.trans pb);obtain rfl:=adP (jd.symm.trans jF);cases fuel with
 |zero=>simp[ae0]at hd
 |succ fuel =>
  unfold ae0 at hd;rw[ht]at hd;have hc:∃u v,cs.toList=[.iface u v]:=by generalize cs.toList=q at hd;split at hd<;>simp_all
  obtain⟨u,v,hc⟩:=hc;refine⟨.iface u v,?_,.inr ⟨u,v,rfl⟩⟩;rw[World.var?_cell hg Hl 0,←aen,hc];rfl
end
end Go.AM
namespace Go.AM
open Go.RowKit
def SV.arr(s:SV)(R:Type):Type:=
 match s with
 |.const _=>R
 |.agg []=>R
 |s=>s.den→R
def SV.lam{R:Type}(s:SV)(f:s.den→R):s.arr R:=
 match s,f with
 |.const _,f=>f ()
 |.agg [],f=>f ()
 |.agg (_::_),f=>f
 |.int _,f=>f
 |.bool,f=>f
 |.str,f=>f
 |.sl _ _,f=>f
 |.err,f=>f
 |.fn _ _ _,f=>f
 |.row _,f=>f
 |.ms _ _,f=>f
 |.mp,f=>f
def SV.app{R:Type}(s:SV)(f:s.arr R)(x:s.den):R:=
 match s,f,x with
 |.const _,f,_=>f
 |.agg [],f,_=>f
 |.agg (_::_),f,x=>f x
 |.int _,f,x=>f x
 |.bool,f,x=>f x
 |.str,f,x=>f x
 |.sl _ _,f,x=>f x
 |.err,f,x=>f x
 |.fn _ _ _,f,x=>f x
 |.row _,f,x=>f x
 |.ms _ _,f,x=>f x
 |.mp,f,x=>f x
def zE:List SV→Type→Type
 |[],R=>R
 |v::vs,R=>v.arr (zE vs R)
def NT{R:Type}:(vs:List SV)→(sdenL vs→R)→zE vs R
 |[],f=>f ()
 |v::vs,f=>v.lam fun a=>NT vs fun b=>f (a,b)
def DS{R:Type}:(vs:List SV)→zE vs R→sdenL vs→R
 |[],f,_=>f
 |v::vs,f,x=>DS vs (v.app f x.1) x.2
def B1:List (Nat×SV)→Type→Type
 |[],R=>R
 |v::vs,R=>v.2.arr (B1 vs R)
def Hm{R:Type}:(vs:List (Nat×SV))→(sdenE vs→R)→B1 vs R
 |[],f=>f ()
 |v::vs,f=>v.2.lam fun a=>Hm vs fun b=>f (a,b)
def WY{R:Type}:(vs:List (Nat×SV))→B1 vs R→sdenE vs→R
 |[],f,_=>f
 |v::vs,f,x=>WY vs (v.2.app f x.1) x.2
def DT:List (List SV)→Type→Type
 |[],R=>R
 |v::vs,R=>zE v (DT vs R)
def NU{R:Type}:(vs:List (List SV))→(sdenB vs→R)→DT vs R
 |[],f=>f ()
 |v::vs,f=>NT v fun a=>NU vs fun b=>f (a,b)
def NV{R:Type}:(vs:List (List SV))→DT vs R→sdenB vs→R
 |[],f,_=>f
 |v::vs,f,x=>NV vs (DS v f x.1) x.2
def B2:List Bool→Type→Type
 |[],R=>R
 |true::vs,R=>Nat→B2 vs R
 |false::vs,R=>B2 vs R
def Hn{R:Type}:(vs:List Bool)→(sdenT vs→R)→B2 vs R
 |[],f=>f ()
 |true::vs,f=>fun a=>Hn vs fun b=>f (a,b)
 |false::vs,f=>Hn vs f
def Ho{R:Type}:(vs:List Bool)→B2 vs R→sdenT vs→R
 |[],f,_=>f
 |true::vs,f,x=>Ho vs (f x.1) x.2
 |false::vs,f,x=>Ho vs f x
def DU:List (Nat×Nat×Nat×List (Nat×SV))→Type→Type
 |[],R=>R
 |v::vs,R=>B1 v.2.2.2 (DU vs R)
def NW{R:Type}:(vs:List (Nat×Nat×Nat×List (Nat×SV)))→(sdenY vs→R)→DU vs R
 |[],f=>f ()
 |v::vs,f=>Hm v.2.2.2 fun a=>NW vs fun b=>f (a,b)
def NY{R:Type}:(vs:List (Nat×Nat×Nat×List (Nat×SV)))→DU vs R→sdenY vs→R
 |[],f,_=>f
 |v::vs,f,x=>NY vs (WY v.2.2.2 f x.1) x.2
def Shape.arr(s:Shape)(R:Type):Type:=B1 s.env (DT s.bx (B2 s.tk (DU s.ys R)))
def Shape.lam{R:Type}(s:Shape)(f:s.den→R):s.arr R:=Hm s.env fun a=>NU s.bx fun b=>Hn s.tk fun c=>NW s.ys fun d=>f (a,b,c,d)
def Shape.app{R:Type}(s:Shape)(f:s.arr R)(x:s.den):R:=NY s.ys (Ho s.tk (NV s.bx (WY s.env f x.1) x.2.1) x.2.2.1) x.2.2.2
def xe{X:Type}(e:Shape)(ks:Ks X)(i:Nat):e.arr (Option X):=e.lam fun x=>ks.ex i (e.e x) (e.h x)
def xr{X:Type}(e:Shape)(ks:Ks X):e.arr (Option X):=e.lam fun x=>ks.ret (e.e x) (e.h x)
def xn{X:Type}(e:Shape)(ks:Ks X):e.arr (Option X):=e.lam fun x=>ks.iw (e.e x) (e.h x)
def dp{X:Type}(d nb nt nl:Nat)(h:Shape)(rH:List (Nat×Shape))(mr:List Shape)(n:Nat)(G:Nat→Ks X→h.arr (Option X)):bm X:=⟨d,⟨nb,nt,nl⟩,h,rH,mr,fun ks s=>h.app (G n ks) s⟩
def aF{X:Type}(d nb nt nl:Nat)(h:Shape)(nx:List Shape)(rH:List (Nat×Shape))(mr:List Shape)(G:Ks X→h.arr (Option X)):ar X:=⟨d,⟨nb,nt,nl⟩,h,nx,rH,mr,fun ks s=>h.app (G ks) s⟩
theorem fb{X:Type}{cx:Cx X}{g N d nb nt nl n:Nat}{b:Code}{h:Shape}{rH:List (Nat×Shape)}{mr:List Shape}{G:Nat→Ks X→h.arr (Option X)}(h0:∀ks s,h.app (G 0 ks) s=none:=by intros;kernel_rfl)
 (h1:∀m ks s,h.app (G (m+1) ks) s=exec cx (inl cx d) ⟨g,N,⟨nb,nt,nl⟩,d⟩ (h.y s) b (oY ⟨nb,nt,nl⟩ (h.y s) h rH mr (fun s=>h.app (G m ks) s) ks) (h.e s) (h.h s):=by intros;kernel_rfl):nN cx g N b (dp d nb nt nl h rH mr n G):=
 ⟨fun m ks s=>h.app (G m ks) s,n,fun _ _=>rfl,h0,h1⟩
def LO{X:Type}(cx:Cx X)(g:Nat)(f:Func)(k:Nat)(li:bm X):Prop:=nN cx g f.ntmps (Mf f k) li
def CO{X:Type}(cx:Cx X)(g:Nat)(f:Func)(k:Nat)(ci:ar X):Prop:=xK cx g f.ntmps (WE f k) ci
theorem J{p q:Prop}(a:p)(b:q):p∧q:=⟨a,b⟩
theorem T1{p:Prop}(a:p):p∧True:=⟨a,trivial⟩
theorem Hp{X:Type}{cx:Cx X}{g i N:Nat}{lv:List Nat}{q:List Nat×Code×Code}(h:cx.lr g i=some (N,lv,q)):∀j,some i=some j→∃lv,cx.lr g j=some (N,lv,q):=fun j e=>⟨lv,by cases e;exact h⟩
theorem bd{X:Type}{cx:Cx X}{g N:Nat}{c:Code}{l r:Prop}(hl:l)(hr:r)(ua:∀i,cx.pQ g i=[]:=by exact fun _=>rfl)(hd:(fI c).all (fun q:Nat×Array Oper=>lJ cx.tab q.2 (cx.conf g q.1) (sP q.2.toList []))=true:=by kernel_rfl)
 (el:pV (fun b=>lj (nN cx g N b) (m_ cx g b)) (fw c)=l:=by kernel_rfl) (er:pV (fun q:Option Nat×List Nat×Code×Code=>∀i,q.1=some i→∃lv,cx.lr g i=some (N,lv,q.2)) (gi c)=r:=by kernel_rfl):lA cx g N c:=
 z3x ua hd (xQ el hl) (xQ er hr)
theorem pq{X:Type}{cx:Cx X}{g N:Nat}{c:Code}{k l r:Prop}(hk:k)(hl:l)(hr:r)(hd:(fI c).all (fun q:Nat×Array Oper=>lJ cx.tab q.2 (cx.conf g q.1) (sP q.2.toList []))=true:=by kernel_rfl)
 (ek:pV (fun b=>lj (xK cx g N b) (rB cx g b)) (gY c)=k:=by kernel_rfl) (el:pV (fun b=>lj (nN cx g N b) (m_ cx g b)) (fw c)=l:=by kernel_rfl) (er:pV (fun q:Option Nat×List Nat×Code×Code=>∀i,q.1=some i→∃lv,cx.lr g i=some (N,lv,q.2)) (gi c)=r:=by kernel_rfl):lA cx g N c:=
 z0w (xQ ek hk) hd (xQ el hl) (xQ er hr)
noncomputable def oc(g:Nat)(ps:List SV)(rv:RV)(f:zE ps (Option rv.den)):Nat×(List AV→Option Entry):=(g,C2 ps rv (DS ps f))
end Go.AM
namespace Go.AM
open Go.RowKit Go.Sort Go.Proofs
def gJ(x:hQ):List Value:=[.string ⟨x.1.toArray⟩,.string ⟨x.2.toArray⟩]
def qI(a b:List UInt8):Int:=if adV a b then -1 else if adV a b||a==b then 0 else 1
def cmpL(x y:hQ):Int:=if qI x.1 y.1=0 then qI x.2 y.2 else qI x.1 y.1
theorem zk8(a b:List UInt8):qI a b=0↔a=b:=by
 unfold qI;by_cases h:adV a b=true
 ·rw[if_pos h];constructor
  ·intro e;cases e
  ·rintro rfl;rw[Mm]at h;cases h
 ·rw[if_neg h];by_cases e:a=b
  ·subst e;simp
  ·have:adV a b=false:=by simpa using h
   simp[this,e]
theorem znc(a b:List UInt8):decide (qI a b<0)=adV a b:=by
 unfold qI;cases h:adV a b
 ·simp;split<;>simp
 ·simp
theorem Mq(x y:hQ):ltOf cmpL x y=iB x y:=by
 unfold ltOf cmpL iB;by_cases e:x.1=y.1
 ·rw[if_pos ((zk8 _ _).2 e),if_pos e,znc]
 ·rw[if_neg (fun h=>e ((zk8 _ _).1 h)),if_neg e,znc]
theorem ae4:SWO (ltOf cmpL) where
 irrefl x:=by rw[Mq];exact Mn x
 trans x y z h1 h2:=by rw[Mq]at *;exact Mo h1 h2
 ntrans x y z h1 h2:=by rw[Mq]at *;exact zi4 h1 h2
theorem z0f{b:ByteArray}{s:List UInt8}(h:b.data.toList=s):b=⟨s.toArray⟩:=by apply ByteArray.ext;apply afu;simpa using h
abbrev vc:Ty:=.agg [.str,.str]
theorem znd{w:World}{D:Nat→Nat→Prop}:∀{l:List hQ}{us:List Value},bf (fun(x:hQ) us=>al w D vc x us) l us→us=l.flatMap gJ∧∀x∈l,x.1.length≤ai∧x.2.length≤ai
 |[],us,h=>⟨h,fun x hx=>by cases hx⟩
 | x :: l,us,h=>by
  obtain⟨v1,v2,rfl,h1,h2⟩:=h;obtain⟨e1,e2⟩:=znd h2;simp only[al,eU]at h1;obtain⟨a,b,rfl,⟨ha,b1,rfl,kB⟩,⟨hb,b2,rfl,ly⟩⟩:=h1;refine⟨?_,fun y hy => ?_⟩
  ·rw[e1,z0f kB,z0f ly];rfl
  ·rcases adR.1 hy with rfl|hy
   ·exact⟨ha,hb⟩
   ·exact e2 y hy
theorem zne{w:World}{D:Nat→Nat→Prop}:∀{l:List hQ},(∀x∈l,x.1.length≤ai∧x.2.length≤ai)→bf (fun(x:hQ) us=>al w D vc x us) l (l.flatMap gJ)
 |[],_=>rfl
 |x::l,h=>by refine⟨gJ x,l.flatMap gJ,rfl,?_,zne fun y hy=>h y (by simp[hy])⟩;simp only[al,eU];obtain⟨h1,h2⟩:=h x (by simp);exact⟨[.string ⟨x.1.toArray⟩],[.string ⟨x.2.toArray⟩],rfl,⟨h1,_,rfl,by simp⟩,⟨h2,_,rfl,by simp⟩⟩
theorem WZ:∀(l:List hQ)(j:Nat),j<l.length*2→(l.flatMap gJ)[j]? = some (gJ (l.toArray[j / 2]!))[j % 2]!
 |[],j,h=>by simp at h
 |x::l,0,h=>rfl
 |x::l,1,h=>rfl
 |x :: l,j+2,h=>by
  have ih:=WZ l j (by simp at h;omega);have e1:(j+2) / 2=j / 2+1:=by omega
  have e2:(j+2) % 2=j % 2:=by omega
  rw[e1,e2];have e3:(x::l).toArray[j / 2+1]! = l.toArray[j / 2]!:=by simp[Array.getElem!_eq_getD]
  rw[e3];simp only[List.flatMap_cons];rw[adW (by simp[gJ])];simpa[gJ]using ih
theorem zr5(l:List hQ):(flatK gJ 2 l.toArray).toList=l.flatMap gJ:=by
 apply afh;intro j;by_cases h:j<l.length*2
 ·rw[WZ l j h];simp[flatK,h]
 ·rw[aeS (by simp;omega),aeS];have:(l.flatMap gJ).length=l.length*2:=by simp[List.length_flatMap,gJ];rw[List.map_const',List.sum_replicate_nat]
  omega
theorem Hq{P:Program}{g f:Nat}(he:Enters P g)
 (hc:∀(q cap:Nat)(d:Array hQ)(w:World),HoldsK gJ 2 w q 0 d→q<w.heap.size→d.size<4611686018427387904→Calls P g #[.slice (some ⟨q,0,none⟩) d.size cap,.func (.func f) #[] #[]] w fun e w' =>e = .returned (.tuple #[])∧∃d' n os,PermIn 0 d.size d d'∧SortedIn (ltOf cmpL) 0 d.size d'∧w'=sortWorldK gJ 2 w q 0 n d' os)
 (h0:∀(A:Option Addr)(w:World),Calls P g #[.slice A 0 0,.func (.func f) #[] #[]] w fun e w'=>e = .returned (.tuple #[])∧w.grownBy w' none):jg P (fun _=>True) g (.sort vc f cy):=by
 refine⟨fun w q cap t cs l D _ hh dy sE hl bX hD Lz hF => ?_,fun w A _=>zx he ((h0 A w).mono fun e w' ⟨h1,h2⟩=>⟨_,h1,rfl,h2⟩)⟩;obtain⟨pf,W0⟩:=znd bX;have N0:vc.size=2:=rfl;rw[N0]at dy pf;have gU:l.length*2≤cs.size:=by rw[dy];omega
 have hH:HoldsK gJ 2 w q 0 l.toArray:=by intro j hj;simp only[size_flatK,afi]at hj;refine⟨?_,by simp[World.frozen?,hh]⟩;rw[aex,zy hh,get_flatK _ _ _ _ (by simpa using hj),←aen];have e:=WZ l j hj;rw[←pf,aeI (by simpa using hj)]at e;exact e
 have CU:q<w.heap.size:=(adS.1 hh).1;refine zx he ((hc q cap l.toArray w hH CU (by have h9:ai=4611686018427387904:=rfl;rw[afi];rw[h9]at hl;exact hl)).mono ?_)
 rintro e w' ⟨rfl,d',n,os,hp,hs,rfl⟩
 obtain⟨p1,_,p3⟩:=hp;have oB:d'.size=l.length:=by simpa using p1
 have W1:d'.toList.Perm l:=by
  have e1:(d'.extract 0 l.toArray.size).toList=d'.toList:=by simp only[Array.toList_extract,afi,List.extract_eq_take_drop,Nat.sub_zero,List.drop_zero];exact List.take_of_length_le (by rw[aek,oB];exact ael _)
  have e2:(l.toArray.extract 0 l.toArray.size).toList=l:=by simp
  rw[e1,e2]at p3;exact p3
 have Hr:lR d'.toList:=by refine List.pairwise_iff_getElem.2 fun i j hi hj BH => ?_;simp only[aek]at hi hj;have:=hs i j (afr _) BH (by simp;omega);rw[Mq,getElem!_pos d' i hi,getElem!_pos d' j hj]at this;simpa using this
 have hd:d'.toList=cy l:=zfq _ _ (W1.trans (yK l).symm) Hr (AD l);have hda:d'=(cy l).toArray:=afu (by simpa using hd);subst hda;have nC:w.grownBy (sortWorldK gJ 2 w q 0 n (cy l).toArray os) (some q):=by
  refine⟨rfl,rfl,rfl,?_,fun k hk c_ => ?_⟩
  ·exact Go.Proofs.size_sortWorldK_c gJ 2 w q 0 n _ os
  ·have hkq:k≠q:=fun e=>c_ (by rw[e]);have kg:k<(putRowK gJ 2 (ae5 w n) q 0 (cy l).toArray).heap.size:=by simpa[putRowK,putRow,mapBlock,ae5]using hk
   simp only[sortWorldK,ae3];rw[aep kg];simp[putRowK,putRow,mapBlock,ae5,aeV,afk hkq]
 have eM:(sortWorldK gJ 2 w q 0 n (cy l).toArray os).heap[q]? = some (.cells (putCells id 0 (flatK gJ 2 (cy l).toArray) cs) t (0,0)):=by
  have kg:q<(putRowK gJ 2 (ae5 w n) q 0 (cy l).toArray).heap.size:=by simpa[putRowK,putRow,mapBlock,ae5]using CU
  simp only[sortWorldK,ae3];rw[aep kg];have kA:(ae5 w n).heap[q]? = some (.cells cs t (0,0)):=hh;simp only[putRowK,putRow,mapBlock,aeV,if_true,kA,Option.map_some,onCells]
 refine⟨_,rfl,rfl,_,nC,eM,by simp[putCells],?_⟩;have xH:(putCells id 0 (flatK gJ 2 (cy l).toArray) cs).toList.take (l.length*vc.size)=(cy l).flatMap gJ:=by
  rw[N0,←zr5];apply afh;intro j;rw[List.getElem?_take];have Ah:(flatK gJ 2 (cy l).toArray).size=l.length*2:=by simp[yL]
  by_cases hj:j<l.length*2
  ·rw[if_pos hj,aen,aen];have hjc:j<cs.size:=by omega
   have hjf:j<(flatK gJ 2 (cy l).toArray).size:=by omega
   simp[putCells,hjc,hjf,Ah,hj]
  ·rw[if_neg hj,aeS];simp only[aek,Ah];omega
 rw[xH];exact zne fun x hx=>W0 x ((yK l).mem_iff.1 hx)
end Go.AM
namespace Go.AM
open Go.RowKit
section
variable {w:World} {G:GS} {B0:Nat} {w0:Wd} {h:H} {q b:Nat} {cs:List AV}
theorem St.look(s:St B0 w0 G h w)(hb:G.bx[q]? = some (some b))(hq:h.bx[q]? = some cs)(hr:isRow cs=false) :
 ∃vs t,B0≤b∧w.heap[b]? = some (.cells vs t (0,0))∧(G.bv q).v=0∧ak w G vs.toList cs:=by
 obtain⟨hB,ob,hh,hO⟩:=s.box q b cs hb hq;obtain⟨vs,t,rfl,h0,hl,ht⟩:=hO.list hr;exact⟨vs,t,hB,hh,h0,hl⟩
theorem St.qJ(s:St B0 w0 G h w)(hb:G.bx[q]? = some (some b))(hq:h.bx[q]? = some cs)(hr:isRow cs=false){i:Nat}{a:AV}(hi:cs[i]? = some a) :
 ∃v,w.cell? ⟨b,i,none⟩=some v∧af w G v a∧w.frozen? ⟨b,i,none⟩=false:=by
 obtain⟨vs,t,hB,hh,h0,hl⟩:=s.look hb hq hr;have bo:i<vs.toList.length:=by rw[hl.1];exact(adO.1 hi).1
 refine⟨vs.toList[i],?_,hl.2 i _ a (adU bo) hi,by simp[World.frozen?,hh]⟩;rw[Lib.cell_of_heap hh,←aen,adU bo]
theorem ak.xT{vs:List Value}(hl:ak w G vs cs){o:Nat}{v:Value}{a:AV}(hv:af w G v a):ak w G (vs.set o v) (cs.set o a):=by
 refine⟨by simp[hl.1],fun i u c hu hc => ?_⟩;rw[ad9]at hu hc;by_cases ho:o=i
 ·subst ho;rw[if_pos rfl]at hu hc;split at hu
  ·split at hc
   ·cases hu;cases hc;exact hv
   ·cases hc
  ·cases hu
 ·rw[if_neg ho]at hu hc;exact hl.2 i u c hu hc
theorem St.xT(s:St B0 w0 G h w)(hb:G.bx[q]? = some (some b))(hq:h.bx[q]? = some cs)(hr:isRow cs=false){o:Nat}{v:Value}{a:AV}(hv:af w G v a)(hn:nT (cs.set o a)=true)(gh:isRow (cs.set o a)=false) :
 bg G.D w (w.setCell ⟨b,o,none⟩ v)∧St B0 w0 G { h with bx:=dF h.bx q (cs.set o a) } (w.setCell ⟨b,o,none⟩ v):=by
 obtain⟨vs,t,hB,hh,h0,hl⟩:=s.look hb hq hr;refine s.wU (nv:=vs.setIfInBounds o v) hb hh hB (by simp) ⟨rfl,rfl,rfl,by simp[World.setCell],fun k _ hk=>Below.heap_setCell _ _ _ _ (fun e=>hk (by simp[e]))⟩ (by simp[World.setCell,aeV,hh]) (fun hk => ?_) (fun T hT=>(UW hn gh T hT).elim);rw[Array.toList_setIfInBounds];have hx:Ext G.base G G:=Ext.refl (cF.le_refl _);exact .box _ _ gh h0 ((hl.mono hx hk).xT (hv.mono hx hk))
theorem St.AF(s:St B0 w0 G h w){n f:Nat}(hn:G.bx[q]? = some (some n))(hf:G.bx[q+1]? = some (some f)){x y z a c i:Int}(b0:h.bx[q]? = some [.int .i64 x])(b1:h.bx[q+1]? = some [.int .i64 y,.int .i64 z]) :
 bg G.D w (((w.setCell ⟨n,0,none⟩ (.int .i64 a)).setCell ⟨f,0,none⟩ (.int .i64 c)).setCell ⟨f,1,none⟩ (.int .i64 i)) ∧
 St B0 w0 G { h with bx:=dF (dF h.bx q [.int .i64 a]) (q+1) [.int .i64 c,.int .i64 i] } (((w.setCell ⟨n,0,none⟩ (.int .i64 a)).setCell ⟨f,0,none⟩ (.int .i64 c)).setCell ⟨f,1,none⟩ (.int .i64 i)):=by
 have hi:∀(w:World)(k:Int),af w G (.int .i64 k) (.int .i64 k):=fun w k => .int _ _ (by simp);obtain⟨k1,s1⟩:=s.xT (o:=0) hn b0 rfl (hi _ a) rfl rfl;have b1':(dF h.bx q [.int .i64 a])[q+1]? = some [.int .i64 y,.int .i64 z]:=by rw[zk,aeh (by omega)];exact b1
 obtain⟨k2,s2⟩:=s1.xT (o:=0) hf b1' rfl (hi _ c) rfl rfl;have hl:q+1<(dF h.bx q [.int .i64 a]).length:=(adO.1 b1').1;have ae9:(dF (dF h.bx q [.int .i64 a]) (q+1) [.int .i64 c,.int .i64 z])[q+1]? = some [.int .i64 c,.int .i64 z]:=by rw[zk,ad9,if_pos rfl,if_pos hl]
 obtain⟨k3,s3⟩:=s2.xT (o:=1) hf ae9 rfl (hi _ i) rfl rfl;refine⟨(k1.trans (fun _ _ x=>x) k2).trans (fun _ _ x=>x) k3,?_⟩;have e:dF (dF (dF h.bx q [.int .i64 a]) (q+1) [.int .i64 c,.int .i64 z]) (q+1) [.int .i64 c,.int .i64 i]=dF (dF h.bx q [.int .i64 a]) (q+1) [.int .i64 c,.int .i64 i]:=by simp only[zk,List.set_set]
 rw[←e];exact s3
theorem Ext.same{B:cF}{G G':GS}(x:Ext B G G'){r b:Nat}(hr:r<B.nb)(hb:G.bx[r]? = some (some b))(hv:(G.bv r).v=0):G'.bx[r]? = some (some b)∧(G'.bv r).v=0:=by
 rcases x.bx r hr with⟨h1,h2⟩ |⟨h1,_⟩ |⟨h1,_⟩
 ·exact⟨h1.trans hb,by rw[h2];exact hv⟩
 ·omega
 ·rw[hb]at h1;cases h1
theorem Ext.kK{G G':GS}(x:Ext G.base G G'){r b:Nat}(hb:G.bx[r]? = some (some b))(hv:(G.bv r).v=0):G'.bx[r]? = some (some b)∧(G'.bv r).v=0:=x.same (adO.1 hb).1 hb hv
theorem zhk{X:Type}{k:AV→H→Option X}{r:X}(hk:wT q h k=some r):∃(τ:Ty)(l:List τ.den)(s:Cap)(a c i x y z:Int)(t:Bool),h.bx[q+3]? = some [.sl τ l s,.int .i64 a,.int .i64 c,.int .i64 i,.bool t]∧h.bx[q+2]? = some [.ref (q+3) 0] ∧
 h.bx[q+1]? = some [.int .i64 y,.int .i64 z]∧h.bx[q]? = some [.int .i64 x]∧k (.cr [.int .i64 a,.agg [.int .i64 c,.int .i64 i]]) { h with bx:=dF (dF (dF h.bx (q+3) [.sl τ l s,.int .i64 a,.int .i64 c,.int .i64 i,.bool false]) q [.int .i64 a]) (q+1) [.int .i64 c,.int .i64 i] }=some r:=by
 unfold wT at hk;simp only[zo]at hk;split at hk
 ·rename_i τ l s a c i t q' y z x h3 h2 h1 h0;obtain⟨hc,kg⟩:=zf hk;clear hk;rw[b_]at hc;subst hc;exact⟨τ,l,s,a,c,i,x,y,z,t,h3,h2,h1,h0,kg⟩
 ·cases hk
theorem zuj{bx:List (List AV)}{A B C:List AV}(hq:q+3<bx.length):dF (dF (dF bx (q+3) A) q B) (q+1) C=dF (dF (dF (dF (dF bx q B) (q+1) C) (q+3) A) q B) (q+1) C:=by
 simp only[zk];apply afh;intro j;simp only[ad9,List.length_set];by_cases h1:q+1=j
 ·simp only[if_pos h1]
 ·rw[if_neg h1,if_neg h1];by_cases h2:q=j
  ·simp only[if_pos h2]
  ·rw[if_neg h2,if_neg h2];by_cases h3:q+3=j
   ·simp only[if_pos h3]
   ·simp only[if_neg h3,if_neg h1,if_neg h2]
theorem zqp(w:World)(G:GS)(a c i:Int):af w G (.tuple #[.int .i64 a,.agg #[.int .i64 c,.int .i64 i]]) (.cr [.int .i64 a,.agg [.int .i64 c,.int .i64 i]]):=by
 have hi:∀k:Int,af w G (.int .i64 k) (.int .i64 k):=fun k => .int _ _ (by simp);refine .cr _ _ rfl fun j v d hv hd => ?_
 match j,hv,hd with
 |0,hv,hd=>cases hv;cases hd;exact hi a
 |1,hv,hd =>
  cases hv;cases hd;refine .agg _ _ rfl fun j v d hv hd => ?_
  match j,hv,hd with
  |0,hv,hd=>cases hv;cases hd;exact hi c
  |1,hv,hd=>cases hv;cases hd;exact hi i
  |j+2,hv,hd=>cases hd
 |j+2,hv,hd=>cases hd
end
end Go.AM
namespace Go.AM
theorem zh{x:Int}(h : -9223372036854775808≤x∧x≤9223372036854775807):IntKind.wrap .i64 x=x:=IntWalk.i64_in x h
theorem zp{α:Type}(l:List α)(k:Nat):idx l (k:Int)=l[k]?:=by simp[idx]
theorem qh{α:Type}{l:List α}{k:Nat}(h:k<l.length):idx l (k:Int)=some l[k]:=by rw[zp];simp[h]
theorem zv{α:Type}(l:List α)(a b:Nat)(h:a≤b)(hb:b≤l.length):sub l (a:Int) (b:Int)=some ((l.take b).drop a):=by simp[sub,h,hb]
theorem zl{α:Type}{l r:List α}{x:α}{k:Nat}(h:l.drop k=x::r):k<l.length∧l[k]? = some x∧l.drop (k+1)=r:=by
 have h1:k<l.length:=by have:=congrArg List.length h;simp at this;omega
 refine⟨h1,?_,?_⟩
 ·have:=congrArg (·[0]?) h;simpa using this
 ·rw[←ae7,h];rfl
theorem zm{α:Type}{l:List α}{k:Nat}(h:l.drop k=[]):l.length≤k:=by simpa using h
theorem vU{α:Type}{p:Prop}[Decidable p]{a b:α}:(bif decide p then a else b)=if p then a else b:=by by_cases h:p<;>simp[h]
theorem zd{α:Type}{p:Prop}[Decidable p]{a b:α}(h:p):(bif decide p then a else b)=a:=by simp[h]
theorem ze{α:Type}{p:Prop}[Decidable p]{a b:α}(h:¬p):(bif decide p then a else b)=b:=by simp[h]
theorem za{α β:Type}(a:α)(f:α→Option β):(some a).bind f=f a:=rfl
theorem zr:ai=4611686018427387904:=rfl
theorem zi{k:Nat}(h:k<4611686018427387904):IntKind.wrap .i64 ((k:Int)+1)=((k+1:Nat):Int):=by rw[zh (by omega)];omega
theorem znf{l:List UInt8}{c:UInt8}:0≤ad4 l c↔c∈l:=by
 induction l with
 |nil=>simp[ad4]
 | cons b l ih =>
  simp only[ad4,adR];by_cases hb:b=c
  ·simp[hb]
  ·have kz:¬c=b:=fun h=>hb h.symm;have Gi : -1≤ad4 l c:=by
    clear ih;induction l with
    |nil=>simp[ad4]
    | cons d l ih =>
     simp only[ad4];split
     ·omega
     ·split<;>rename_i h1 h2
      ·omega
      ·have:ad4 l c ≠ -1:=by simpa using h2
       omega
   simp only[beq_iff_eq,hb,if_false,kz,false_or];by_cases hm:ad4 l c = -1
   ·simp only[hm,if_true];rw[hm]at ih;simpa using ih
   ·simp only[hm,if_false,←ih];omega
def cj:List (List UInt8)→List UInt8
 |[]=>[]
 |s::l=>s++[10]++cj l
theorem zng(l:List (List UInt8))(h:l≠[]):aeL l [10]++[10]=cj l:=by
 match l,h with
 |x :: r,_ =>
  rw[Lib.join_cons];induction r generalizing x with
  |nil=>simp[Lib.joinTail,cj]
  |cons y r ih =>have:=ih y (by simp);simp only[cj,Lib.joinTail,aes,List.flatten_cons]at this ⊢;rw[←this];simp
theorem W2(l m:List (List UInt8)):cj (l++m)=cj l++cj m:=by
 induction l with
 |nil=>rfl
 |cons x l ih=>simp[cj,ih]
end Go.AM
namespace Go.AM
def qK:Nat→DataW Unit→List Value
 |0,_=>[]
 |n+1,.lit (.int k z)=>[.int k z]
 |n+1,.lit (.string bs)=>[.string ⟨bs.toArray⟩]
 |n+1,.agg l=>l.flatMap (qK n)
 |n+1,.ptr d=>qK n d
 |n+1,.iface _ d=>qK n d
 |_,_=>[]
def putCells(h:Array Obj)(g:Nat)(cs:Array Value):Array Obj:=h.modify g fun
 |.cells _ t frozen => .cells cs t frozen
 |o=>o
def ub(g:Nat)(d:DataW Unit)(h:Array Obj):Array Obj:=putCells h g (qK 4 d).toArray
def DV(g tp te:Nat)(d:DataW Unit)(h:Array Obj):Array Obj:=putCells (h.push (.cells (qK 4 d).toArray te (0,0))) g #[.iface tp (.pointer (some ⟨h.size,0,none⟩))]
noncomputable def Mr(P:Program)(os:Os)(fs:List (Array Obj→Array Obj)):World:=
 { World.holding P os ⟨#[],#[],[]⟩with heap:=fs.foldl (fun h f=>f h) (World.holding P os ⟨#[],#[],[]⟩).heap }
end Go.AM
