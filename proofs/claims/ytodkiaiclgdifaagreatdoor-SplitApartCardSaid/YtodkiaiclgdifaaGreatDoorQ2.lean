/- Part 2 of a proof by the abstract machine. -/
import Derived.Test.YtodkiaiclgdifaaGreatDoorQ1
import Derived.Laws.StructEq
import Derived.MapKept
import Derived.RangeFuncRecord
import Derived.OrdersIn
open List renaming getElem?_eq_some_iff→ab9,getElem?_append_left→acd,getElem?_append_right→ace,getElem?_take_of_lt→ack,getElem?_set→acn,getElem?_eq_getElem→acp,eq_nil_of_length_eq_zero→acs,getElem?_take→acv,mem_of_getElem?→acx,length_append→acy,getElem?_drop→acF,getElem?_of_mem→acH,getElem?_map→acI,take_of_length_le→acJ,length_set→acN,take_append_of_le_length→acX,append_assoc→acY,getElem?_cons_zero→ada,getElem?_cons_succ→adb,ext_getElem?→adf,map_cons→adk,append_nil→adp,map_append→adq,mem_cons→adw,size_toArray→adx,length_take→adA,mem_toArray→adC,nil_append→adD,mem_append→adG
open Bool renaming and_eq_true→acf
open Go.Op renaming operands→acg
open Option.some renaming inj→ach,injEq→acj
open Go.Sem renaming run_bind→aci,run_pure→acL
open Go.Result renaming andThen_ok→aco,andThen→adH
open Array renaming getElem?_toList→acq,length_toList→acr,getElem?_eq_some_iff→acu,ext'→acG,eq_empty_of_size_eq_zero→ads
open Option renaming bind_some→acD,bind_eq_some_iff→acS,map_eq_some_iff→acT,map→adI
open List.cons renaming injEq→acE
open Nat renaming zero_add→acK,le_refl→acQ,mul_le_mul_right→acZ,beq→ac9,lt_succ_self→adm,succ_pos→ado,add_mul→adt,one_pos→adu
open Go.Builtin renaming append_→acM,len_→ac3,zeroCells→ady
open Go.MapKept renaming run_getObj_map→acO
open Go.Fence renaming wide→acP
open Go.World renaming putObj_heap_other→acR
open Go.Deferred renaming ofValue→ac0
open Go.Instr renaming indexAt→ac2,sureAddr→ac5,findNow→adj,fieldAt→adv,buildSlice→adB,mapUpdate→adE
open Ne renaming symm→ac8
open Go.Value.slice renaming injEq→ade
open Go.Oper renaming uponIn_enter→adg
open Go.Call renaming operands→adl
open Go.CallsIn renaming mono→adr
open Go renaming binOp→adz
open Prod.mk renaming injEq→adJ
set_option linter.unusedVariables false
set_option linter.unusedSimpArgs false
namespace Go.AM
open Go.RowKit
section
variable {P:Program} {w:World} {G:GS}
theorem Good.pure{X:Type}{B0:Nat}{w0:Wd}{h:H}{k:AV→H→Option X}{r:X}{v:Value}{av:AV}(st:St B0 w0 G h w)(hv:af w G v av)(hk:k av h=some r) :
 Good P B0 w0 G w k r ((Pure.pure (Next.value v):Sem Next).run P w):=⟨v,w,.inl rfl,Ends.same st hv hk⟩
theorem Vq{X:Type}{cx:Cx X}(hT:fC P cx.tab){t f off ft:Nat}{fs:List (Nat×Nat)}{ti fi:TI}(ht:cx.tab t=some ti)(hd:ti.d = .struct fs)(hn:nth fs f=some (off,ft))(hf:cx.tab ft=some fi) :
 ∃(fields:Array Field)(fd:Field),P.underlying t=some (.struct fields)∧fields[f]? = some fd∧fd.offset=off∧fd.type=ft:=by
 have h:=(hT t ti ht).d;rw[hd]at h;obtain⟨fields,hu,Ah,_⟩:=h;rw[zo,←Ah,acI]at hn;obtain⟨fd,h1,h2⟩:=acT.1 hn;simp only[adJ]at h2;exact⟨fields,fd,hu,by simpa using h1,h2.1,h2.2⟩
theorem zfz{X:Type}{cx:Cx X}(hT:fC P cx.tab){B0:Nat}{w0:Wd}{h:H}(st:St B0 w0 G h w){b:Builtin}{ts:Array TypeId}{ty:TypeId}{cs:Array Bool}{args:Array Value}{aS:List AV}
 (ha:ak w G args.toList aS) {k:AV→H→Option X} {r:X} (hk:fg cx b ts.toList aS h k=some r):Good P B0 w0 G w k r ((builtin b ts ty cs args).run P w):=by
 have hint:∀n:Int,af w G (goInt n) (.int .i64 n):=fun n => .int _ _ (by intro e;cases e);unfold fg at hk;split at hk
 ·rename_i b x;obtain⟨v,gv,hv⟩:=ha.one;have pg:args=#[v]:=acG (by simpa using gv);subst pg;split at hk
  ·rename_i t ts' rK;have xw:ts[0]? = some t:=by rw[←acq,rK];rfl
   split at hk
   ·rename_i n e _ _ _ _ _ _ ht;have hd:=(hT t _ ht).d;refine Good.v st (v:=goInt n) ?_ (hint n) hk;simp[ac3,xw,aci,run_underlying hd]
   ·rename_i _ _ _ _ _ _ ht;have hd:=(hT t _ ht).d;split at hk
    ·rename_i s;obtain⟨bs,rfl,iN,_⟩:=zq hv;refine Good.v st (v:=goInt s.length) ?_ (hint _) hk;have dz:bs.size=s.length:=by rw[qe,iN]
     simp[ac3,xw,aci,run_underlying hd,dz]
    ·cases hk
   ·rename_i e _ _ _ _ _ _ ht;have hd:=(hT t _ ht).d;split at hk
    ·rename_i τ l c;obtain⟨A,cap,rfl,_⟩:=CH hv;refine Good.v st (v:=goInt l.length) ?_ (hint _) hk;simp[ac3,xw,aci,run_underlying hd]
    ·cases hv;refine Good.v st (v:=goInt 0) ?_ (hint _) hk;simp[ac3,xw,aci,run_underlying hd]
    ·rename_i n cs;cases hv with
     |gp _ b o c us _ h0 hc hl yE hr =>refine Good.v st (v:=goInt n) ?_ (hint _) hk;simp[ac3,xw,aci,run_underlying hd]
    ·cases hk
   ·cases hk
  ·cases hk
 ·rename_i b s x;obtain⟨v1,v2,gv,h1,h2⟩:=ha.two;have pg:args=#[v1,v2]:=acG (by simpa using gv);subst pg;split at hk
  ·rename_i t t2 rest rK;have e0:ts=(t::t2::rest).toArray:=by rw[←rK]
   have EN:acM ts ty #[v1,v2]=acM #[t,t2] ty #[v1,v2]:=by rw[e0];simp[acM]
   split at hk
   ·rename_i e _ _ _ _ _ _ kZ;obtain⟨v,w',hr,hE⟩:=zfy (ty:=ty) hT st kZ (.inl ⟨_,rfl⟩) h1 h2 hk;refine Good.v' (s:=acM ts ty #[v1,v2]) ?_ hE;rw[EN];exact hr
   ·rename_i _ _ _ _ _ _ kZ;obtain⟨v,w',hr,hE⟩:=zfy (ty:=ty) hT st kZ (.inr rfl) h1 h2 hk;refine Good.v' (s:=acM ts ty #[v1,v2]) ?_ hE;rw[EN];exact hr
   ·cases hk
  ·cases hk
 ·rename_i q x q' y;obtain⟨v1,v2,gv,h1,h2⟩:=ha.two;have pg:args=#[v1,v2]:=acG (by simpa using gv);subst pg;obtain⟨rfl,hx⟩:=zj h1;obtain⟨rfl,hy⟩:=zj h2;split at hk
  ·rename_i hq;subst hq;refine Good.v st (v:=.int q (if y<x then y else x)) ?_ (.int _ _ fun e=>by split;exact hy e;exact hx e) hk;simp[Builtin.min_,Builtin.min2]
  ·cases hk
 ·rename_i q x q' y;obtain⟨v1,v2,gv,h1,h2⟩:=ha.two;have pg:args=#[v1,v2]:=acG (by simpa using gv);subst pg;obtain⟨rfl,hx⟩:=zj h1;obtain⟨rfl,hy⟩:=zj h2;split at hk
  ·rename_i hq;subst hq;refine Good.v st (v:=.int q (if y>x then y else x)) ?_ (.int _ _ fun e=>by split;exact hy e;exact hx e) hk;simp[Builtin.max_,Builtin.max2]
  ·cases hk
 ·cases hk
theorem zko{X:Type}{sz:Nat}{i:Int}{k:AV→Option X}{q:X}:∀(n j r o:Nat),tj sz i n (j:Int) r o k=some q→∃m:Nat,i=m∧m<j+n∧k (.ref r (o+(m - j)*sz))=some q∧j≤m
 |0,j,r,o,h=>by cases h
 | n + 1,j,r,o,h=>by
  simp only[tj]at h;cases hc:(i==(j:Int))with
  |true =>
   rw[hc]at h;have BH:i=j:=by simpa using hc
   exact⟨j,BH,by omega,by simpa using h,acQ _⟩
  |false =>rw[hc]at h;obtain⟨m,h1,h2,h3,h4⟩:=zko n (j+1) r (o+sz) (by simpa using h);refine⟨m,h1,by omega,?_,by omega⟩;rw[show o+(m - j)*sz=o+sz+(m - (j+1))*sz from by rw[show m - j=(m - (j+1))+1 from by omega,adt];omega];exact h3
theorem zwr {X:Type} {cx:Cx X} {O:Open X} {Y:Ys} (hT:fC P cx.tab) {B0:Nat} {w0:Wd} {h:H} (st:St B0 w0 G h w) {a:Act} {e:Env} {N:Nat} (he:eN w G N a.tmps e) (o:Oper)
 (EO:∀c f,o.op = .call c→c.callee ≠ .value f) {k:AV→H→Option X} {r:X} (hk:fK cx O Y o e h k=some r):Good P B0 w0 G w k r ((execOp a.eval o).run P w):=by
 unfold fK at hk;unfold execOp;split at hk
 ·rename_i x ho;simp only[ho];exact Good.pure st (iZ (he.ev x) _) hk
 ·rename_i x ho;simp only[ho];exact Good.pure st (iZ (he.ev x) _) hk
 ·rename_i c x y ho;simp only[ho];split at hk
  ·rename_i b hb;have hc:=he.ev c;rw[hb]at hc;have hc:=n5 hc;rw[hc];cases b with
   |true=>exact⟨a.eval x,w,.inl (by simp[asBool]),Ends.same st (he.ev x) hk⟩
   |false=>exact⟨a.eval y,w,.inl (by simp[asBool]),Ends.same st (he.ev y) hk⟩
  ·cases hk
 ·rename_i t ho;simp only[ho];split at hk
  ·rename_i ti ht;obtain⟨hc,hk⟩:=zf hk;simp only[acf,b_,eV]at hc;obtain⟨v,w',h1,h2⟩:=zo6 st (hT t ti ht) hc.1 hc.2 hk;exact Good.v' h1 h2
  ·cases hk
 ·rename_i t x ho;simp only[ho];split at hk
  ·rename_i ti ht;obtain⟨hc,hk⟩:=zf hk;simp only[acf,b_,eV]at hc;obtain⟨v,w',h1,h2⟩:=ztk (P:=P) (t:=t) st (iZ (he.ev x) ti.ty) (by omega) hc.2 hk;exact Good.v' h1 h2
  ·cases hk
 ·rename_i t parts ho;simp only[ho];split at hk
  ·rename_i ti ht;obtain⟨hc,hk⟩:=zf hk;simp only[acf,b_,eV]at hc;obtain⟨g1,g2⟩:=zo7 hT he ht hc.1 hc.2 (parts:=parts);split at hk
   ·rename_i fs hd;split at hk
    ·rename_i cs dy;obtain⟨v,h1,h2⟩:=g1 fs cs hd dy;exact Good.v st h1 h2 hk
    ·cases hk
   ·rename_i n et hd;split at hk
    ·rename_i ei fP;split at hk
     ·rename_i cs dy;obtain⟨v,h1,h2⟩:=g2 n et ei cs hd fP dy;exact Good.v st h1 h2 hk
     ·cases hk
    ·cases hk
   ·cases hk
  ·cases hk
 ·rename_i t len parts ho;simp only[ho];split at hk
  ·rename_i et _ _ _ _ _ _ ht;split at hk
   ·rename_i ti fP;split at hk
    ·rename_i τ hτ;split at hk
     ·rename_i l hl;obtain⟨hc,hk⟩:=zf hk;simp only[acf,b_,eV,jZ]at hc;obtain⟨⟨⟨⟨c1,c2⟩,c4⟩,c5⟩,c6⟩:=hc;obtain⟨v,w',h1,h2⟩:=zh0 hT he st ht rfl fP hl c1 c2 c4 c5 c6 hk;exact Good.v' h1 h2
     ·cases hk
    ·split at hk
     ·rename_i l hl;obtain⟨hc,hk⟩:=zf hk;simp only[acf,b_,eV,jZ]at hc;obtain⟨⟨⟨⟨c1,c2⟩,c4⟩,c5⟩,c6⟩:=hc;obtain⟨v,w',h1,h2⟩:=zl2 hT he st ht rfl fP hl c1 c2 c4 c5 c6 hk;exact Good.v' h1 h2
     ·cases hk
   ·cases hk
  ·cases hk
 ·rename_i t x ho;simp only[ho];split at hk
  ·rename_i ti ht;split at hk
   ·rename_i v hv;obtain⟨u,h1,h2⟩:=zg8 st (hT t ti ht) (he.ev x) hv;exact Good.v st h1 h2 hk
   ·cases hk
  ·cases hk
 ·rename_i t x y ho;simp only[ho];split at hk
  ·rename_i ti ht;split at hk
   ·rename_i h' hs;obtain⟨w',h1,h2,h3⟩:=U5 st (hT t ti ht) (he.ev x) (iZ (he.ev y) ti.ty) hs;refine⟨undef,w',.inr ⟨by simp[aci,h1],rfl⟩,.cr [],G,h',Ext.refl (cF.le_refl _),h2,h3,sD _ _,hk⟩
   ·cases hk
  ·cases hk
 ·rename_i x ho;simp only[ho];have hx:=he.ev x;split at hk
  ·rename_i q off hq;rw[hq]at hx;generalize hg:a.eval x=xv at hx;cases hx with
   |ref _ _ b hb hv =>exact Good.pure st (af.ref _ _ _ hb hv) hk
  ·rename_i cs hq;rw[hq]at hx;generalize hg:a.eval x=xv at hx;cases hx with
   |iM b oo us _ hl hm hr =>exact Good.pure st (af.iM _ _ _ _ hl hm hr) hk
  ·rename_i f c1 c2 hq;rw[hq]at hx;generalize hg:a.eval x=xv at hx;cases hx with
   |fn _ x1 x2 _ _ p1 p2 p3 p4 =>exact Good.pure st (af.fn _ _ _ _ _ p1 p2 p3 p4) hk
  ·rename_i j hq;rw[hq]at hx;generalize hg:a.eval x=xv at hx;cases hx with
   |yield _ p hp =>exact Good.pure st (af.yield _ _ hp) hk
  ·cases hk
 ·rename_i op t x y _ ho;simp only[ho];have hx:=he.ev x;have hy:=he.ev y;split at hk
  ·rename_i b c hb hc;rw[hb]at hx;rw[hc]at hy;split at hk
   ·rename_i ht;obtain⟨ms,hd⟩:=(hT t _ ht).d;split at hk
    ·generalize hg:a.eval x=xv at hx;have ew:∀(z:Value),(z = .nilIface∧b=false∨∃tt xx,z = .iface tt xx∧b=true)→(Op.equal t z .nilIface).run P w = .ok (!b) w:=by intro z hz;obtain⟨dd,ee⟩:∃dd,Op.maxDepth=dd+1:=⟨9999,rfl⟩;unfold Op.equal;rw[ee];rcases hz with⟨rfl,rfl⟩ |⟨tt,xx,rfl,rfl⟩<;>simp[Op.equalIn,aci,run_underlying hd]
     have hz:xv = .nilIface∧b=false∨∃tt xx,xv = .iface tt xx∧b=true:=by
      cases hx with
      |jI=>exact .inl ⟨rfl,rfl⟩
      |ky tt xx=>exact .inr ⟨tt,xx,rfl,rfl⟩
     have hr:=ew xv hz;have EP:(eqGuard .eql t x (.const .nilIface) xv .nilIface).run P w = .ok () w:=by rcases hz with⟨rfl,_⟩ |⟨tt,xx,rfl,_⟩<;>simp[eqGuard]
     refine Good.v st (v:=.bool (!b)) ?_ (.bool _) hk;have nh:a.eval (.const .nilIface) = .nilIface:=rfl;rw[nh];simp only[aci,EP,aco];rcases hz with⟨rfl,_⟩ |⟨tt,xx,rfl,_⟩<;>simp[adz,hr]
    ·generalize hg:a.eval x=xv at hx;have ew:∀(z:Value),(z = .nilIface∧b=false∨∃tt xx,z = .iface tt xx∧b=true)→(Op.equal t z .nilIface).run P w = .ok (!b) w:=by intro z hz;obtain⟨dd,ee⟩:∃dd,Op.maxDepth=dd+1:=⟨9999,rfl⟩;unfold Op.equal;rw[ee];rcases hz with⟨rfl,rfl⟩ |⟨tt,xx,rfl,rfl⟩<;>simp[Op.equalIn,aci,run_underlying hd]
     have hz:xv = .nilIface∧b=false∨∃tt xx,xv = .iface tt xx∧b=true:=by
      cases hx with
      |jI=>exact .inl ⟨rfl,rfl⟩
      |ky tt xx=>exact .inr ⟨tt,xx,rfl,rfl⟩
     have hr:=ew xv hz;have EP:(eqGuard .neq t x (.const .nilIface) xv .nilIface).run P w = .ok () w:=by rcases hz with⟨rfl,_⟩ |⟨tt,xx,rfl,_⟩<;>simp[eqGuard]
     refine Good.v st (v:=.bool b) ?_ (.bool _) hk;have nh:a.eval (.const .nilIface) = .nilIface:=rfl;rw[nh];simp only[aci,EP,aco];rcases hz with⟨rfl,_⟩ |⟨tt,xx,rfl,_⟩<;>simp[adz,hr]
    ·cases hk
   ·cases hk
  ·rename_i τ l c hb hc;rw[hb]at hx;rw[hc]at hy;generalize a.eval y=yv at hy;cases hy;split at hk
   ·rename_i et _ _ _ _ _ _ ht;obtain⟨bb,hr,k7,A,nn,mm,hA⟩:=z3r (hT t _ ht).d hx;have EP:∀(op:BinOp)(z:Operand),(eqGuard op t x z (a.eval x) (.slice none 0 0)).run P w = .ok () w:=by intro op z;rw[hA];cases op<;>rfl
    have key:∀(f:Bool→Bool),(bif l.isEmpty then both (k (.bool (f true)) h) (k (.bool (f false)) h)else k (.bool (f false)) h)=some r→k (.bool (f bb)) h=some r:=by
     intro f hh;cases hl:l with
     |nil =>
      rw[hl]at hh;obtain⟨h1,h2⟩:=ztd (by simpa using hh);cases bb
      ·exact h2
      ·exact h1
     |cons z zs =>rw[hl]at hh;have:bb=false:=k7 (by rw[hl];simp);rw[this];simpa using hh
    rw[hA]at hr;split at hk
    ·refine Good.v st (v:=.bool bb) ?_ (.bool _) (key id hk);simp only[aci,EP,aco];rw[hA];simp[adz,hr]
    ·refine Good.v st (v:=.bool (!bb)) ?_ (.bool _) (key (fun b => !b) hk);simp only[aci,EP,aco];rw[hA];simp[adz,hr]
    ·cases hk
   ·cases hk
  ·rename_i aS bs hb hc;rw[hb]at hx;rw[hc]at hy;split at hk
   ·rename_i ti c ht qC;obtain⟨Gp,hk⟩:=zf hk;simp only[acf]at Gp;obtain⟨c1,c2⟩:=(hT t ti ht).cmp Gp.1;generalize a.eval x=xv at hx;generalize a.eval y=yv at hy;cases hx with
    | agg xs _ ER h1 =>
     cases hy with
     |agg ys _ ni h2 =>
      have hr:=c2 w G xs ys aS bs c Gp.2 ⟨by simpa using ER,fun i v cc hv CJ=>h1 i v cc (by simpa using hv) CJ⟩ ⟨by simpa using ni,fun i v cc hv CJ=>h2 i v cc (by simpa using hv) CJ⟩ qC;split at hk
      ·refine Good.v st (v:=.bool c) ?_ (.bool _) hk;simp only[aci,run_eqGuard_agg _ _ _ _ _ _ _ c1,aco];simp[adz,hr]
      ·refine Good.v st (v:=.bool (!c)) ?_ (.bool _) hk;simp only[aci,run_eqGuard_agg _ _ _ _ _ _ _ c1,aco];simp[adz,hr]
      ·cases hk
   ·cases hk
  ·obtain⟨v,av,h1,h2,h3⟩:=zrk hT hx hy hk x y;exact Good.v st h1 h2 h3
 ·rename_i op _ x ho;simp only[ho];obtain⟨v,av,h1,h2,h3⟩:=ztj (P:=P) (he.ev x) hk;exact Good.v st h1 h2 h3
 ·rename_i s d x ho;simp only[ho];have hx:=he.ev x;split at hk
  ·rename_i hs hd eW;rw[eW]at hx;obtain⟨l7,_⟩:=zj hx;rw[l7];have h1:=(hT s _ hs).d;have h2:=(hT d _ hd).d;refine Good.v st ?_ (kD _ _) hk;simp[convert,aci,run_underlying h1,run_underlying h2,Conv.intToInt]
  ·rename_i hs hd eW;rw[eW]at hx;have h1:=(hT s _ hs).d;have h2:=(hT d _ hd).d;obtain⟨bs,l7,hb⟩:=zq hx;rw[l7];refine Good.v st (v:=.string bs) ?_ (.str _ _ hb.1 hb.2) hk;simp[convert,aci,run_underlying h1,run_underlying h2]
  ·rename_i hs hd eW;rw[eW]at hx;have h1:=(hT s _ hs).d;have h2:=(hT d _ hd).d;split at hk
   ·rename_i sK;obtain⟨u,hr,hu⟩:=zmi h1 (hT _ _ sK).d h2 hx;exact Good.v st hr hu hk
   ·cases hk
  ·rename_i hs hd eW;rw[eW]at hx;have h1:=(hT s _ hs).d;have h2:=(hT d _ hd).d;split at hk
   ·rename_i sK;obtain⟨u,w',hr,hE⟩:=zmj st h1 (hT _ _ sK).d h2 hx hk;exact Good.v' hr hE
   ·cases hk
  ·cases hk
 ·rename_i t m x ho;simp only[ho];split at hk
  ·rename_i hs;split at hk
   ·rename_i ph sK;split at hk
    ·rename_i rr a' hm hx;split at hk
     ·rename_i es jf;rw[zo]at jf;have tI:=he.ev m;have eW:=he.ev x;rw[hm]at tI;rw[hx]at eW;obtain⟨l7,_⟩:=zj eW;rw[l7];generalize a.eval m=mv at tI;cases tI with
      | gq _ b hb hv =>
       obtain⟨_,ob,hh,hr⟩:=st.box _ _ _ hb jf;cases hr with
       |cells vs t0 _ h _=>exact absurd h (by intro hB;cases hB with |box _ bX _ _=>simp[isRow]at bX)
       |fm _ c _ =>
        obtain⟨z,hz,_⟩:=jJ (w:=w) (hT _ _ sK) (by simp);obtain⟨v,g1,g2⟩:=zo8 (G:=G) (hT _ _ hs).d (hT _ _ ph).d hz hh a';rw[zwo]at hk;cases hf:(es.find? fun p=>a'==p.1)with
        |none =>rw[hf]at hk g2;exact Good.v st g1 g2 hk
        |some p =>rw[hf]at hk g2;exact Good.v st g1 g2 hk
     ·cases hk
    ·cases hk
   ·cases hk
  ·cases hk
 ·rename_i t l c ho;simp only[ho];split at hk
  ·rename_i et _ _ _ _ _ _ hs;split at hk
   ·rename_i ei sK;split at hk
    ·rename_i τ a b jd hl hc;obtain⟨hb,kg⟩:=zf hk;clear hk;simp only[acf,decide_eq_true_eq,b_,eV]at hb;have hlx:=he.ev l;have oF:=he.ev c;rw[hl]at hlx;rw[hc]at oF;obtain⟨hlv,_⟩:=zj hlx;obtain⟨CJ,_⟩:=zj oF;rw[hlv,CJ];obtain⟨⟨h0,⟨h1,h2⟩,h3⟩,⟨h4,h5⟩,h6⟩:=hb;subst h0;obtain⟨v,w',g1,g2⟩:=zrl hT st (hT _ _ hs).d sK h4 h5 h6 h1 h2 h3 kg;exact Good.v' g1 g2
    ·cases hk
   ·cases hk
  ·cases hk
 ·rename_i f first cap ho
  simp only[ho];refine Good.v st (v:=.func (.func f) (first.map a.eval) (cap.map a.eval)) (by simp[Instr.makeFunc]) ?_ hk;refine .fn _ _ _ _ _ (by simp) (fun i v c hv hc => ?_) (by simp) (fun i v c hv hc => ?_)
  ·simp only[Array.getElem?_map,acI,acq,acT]at hv hc;obtain⟨p,hp,rfl⟩:=hv;obtain⟨q,hq,rfl⟩:=hc;rw[hp]at hq;obtain rfl:=ach hq;exact he.ev p
  ·simp only[Array.getElem?_map,acI,acq,acT]at hv hc;obtain⟨p,hp,rfl⟩:=hv;obtain⟨q,hq,rfl⟩:=hc;rw[hp]at hq;obtain rfl:=ach hq;exact he.ev p
 ·rename_i t x lo hi mx ho;simp only[ho];split at hk
  ·rename_i ti ht;obtain⟨v,av,h1,h2,h3⟩:=zfx hT ht he (he.ev x) hk;exact Good.v st h1 h2 h3
  ·cases hk
 ·rename_i t x f ho;simp only[ho];have hx:=he.ev x;split at hk
  ·rename_i fs _ _ _ _ _ _ ht;split at hk
   ·rename_i off ft hn;split at hk
    ·rename_i fi oG;obtain⟨hc,hk⟩:=zf hk;simp only[eV]at hc;obtain⟨fields,fd,hu,Gq,Gr,Gs⟩:=Vq hT ht rfl hn oG;have dz:(sizeOf fd.type).run P w = .ok fi.size w:=by rw[Gs];exact zw (hT ft fi oG)
     have ew:∀(b oo:Nat),(adv t (.pointer (some ⟨b,oo,none⟩)) f).run P w = .ok (.pointer (some ⟨b,oo+off,none⟩)) w:=by
      intro b oo;have c_:fi.size≠0:=by omega
      simp[adv,aci,run_underlying hu,Gq,ac5,fieldPlace,dz,c_,mu,Gr]
     split at hk
     ·rename_i q oo hq;rw[hq]at hx;generalize a.eval x=xv at hx;cases hx with
      |ref _ _ b hb hv=>exact Good.v st (ew b oo) (.ref _ _ _ hb hv) hk
     ·rename_i cs hq;rw[hq]at hx;generalize a.eval x=xv at hx;cases hx with
      |iM b oo us _ hl hm hr =>
       refine Good.v st (ew b oo) (.iM _ _ (us.drop off) _ ?_ (fun i u xy => ?_) (fun i u c xy oC => ?_)) hk
       ·rw[rJ];simp[hl]
       ·rw[acF]at xy;have:=hm (off+i) u xy;rw[show oo+off+i=oo+(off+i)from by omega];exact this
       ·rw[rJ,acF]at oC;rw[acF]at xy;exact hr _ u c xy oC
     ·cases hk
    ·cases hk
   ·cases hk
  ·cases hk
 ·rename_i t x f ho;simp only[ho];have hx:=he.ev x;split at hk
  ·rename_i fs _ _ _ _ _ _ ht;split at hk
   ·rename_i off ft hn;split at hk
    ·rename_i fi cs oG dy;obtain⟨fields,fd,hu,Gq,Gr,Gs⟩:=Vq hT ht rfl hn oG;rw[dy]at hx;generalize a.eval x=xv at hx;cases hx with
     | agg vs _ hl h1 =>
      split at hk
      ·rename_i ds oB;split at hk
       ·rename_i v hv;rw[rJ]at oB;obtain⟨u,hr,xy⟩:=zmg (w:=w) (G:=G) (hT ft fi oG) (cs:=vs) (aS:=cs) ⟨by simpa using hl,fun i v c hv hc=>h1 i v c (by simpa using hv) hc⟩ oB hv;refine Good.v st (v:=u) ?_ xy hk;simp[Instr.field,aci,run_underlying hu,Gq,asAgg,Gs,Gr,hr]
       ·cases hk
      ·cases hk
    ·cases hk
   ·cases hk
  ·cases hk
 ·rename_i t x i ho;simp only[ho];have hx:=he.ev x;have hi:=he.ev i;split at hk
  ·rename_i et _ _ _ _ _ _ ht;split at hk
   ·rename_i ti fP;split at hk
    ·rename_i τ l c q n eW je;have ik:=zf hk;clear hk;obtain⟨hc,hk⟩:=ik;simp only[b_]at hc;rw[eW]at hx;rw[je]at hi;obtain⟨xz,_⟩:=zj hi;rw[xz];cases nj:idx l n with
     |none=>rw[nj]at hk;simp at hk
     |some el =>
      rw[nj]at hk;simp only[acD]at hk;obtain⟨m,rfl,hm,lO⟩:=LB nj;have hu:=(hT t _ ht).d;obtain⟨A,cap,l7,sE,fG,_⟩:=CH hx;rw[l7];simp only[al]at fG;obtain⟨hl,A',c',us,hv,_,bX,fY⟩:=fG;simp only[acE,ade,and_true,true_and]at hv;obtain⟨rfl,rfl⟩:=hv;obtain⟨b,oo,rfl,yE⟩:=fY (by omega);have dz:=zw (w:=w) (hT et ti fP);have ew:(ac2 t (.slice (some ⟨b,oo,none⟩) l.length cap) (.int q (m:Int))).run P w = .ok (.pointer (some ⟨b,oo+m*ti.size,none⟩)) w:=by simp[ac2,asIntOf,aci,run_underlying hu,dz,mu,hm]
      have ES:=bf.at (sz:=τ.size) (fun x vs hx=>i_ hx) bX m el lO;have lI:=tD (w:=w) (G:=G) τ el _ ES;refine Good.v st ew (.iM _ _ ((us.drop (m*τ.size)).take τ.size) _ lI.1 (fun j u hj => ?_) (fun j u c hj BI=>lI.2 j u c hj BI)) hk;rw[acv]at hj;split at hj
      ·rw[acF]at hj;rw[hc,Nat.add_assoc];exact yE _ u hj
      ·cases hj
    ·rename_i n cs q i' eW je;have ik:=zf hk;clear hk;obtain⟨hc,hk⟩:=ik;rw[eW]at hx;rw[je]at hi;obtain⟨xz,_⟩:=zj hi;rw[xz];obtain⟨m,rfl,hm,hk⟩:=zkn n 0 cs hk;rw[acK];obtain⟨v,h1,h2⟩:=zrm (hT t _ ht).d (hT et ti fP) hx (q:=q) hm;exact Good.v st h1 h2 hk
    ·cases hk
   ·cases hk
  ·rename_i n et _ _ _ _ _ _ ht;split at hk
   ·rename_i ti fP;split at hk
    ·rename_i r o q i' eW je;rw[eW]at hx;rw[je]at hi;obtain⟨xz,_⟩:=zj hi;rw[xz];generalize a.eval x=xv at hx;cases hx with
     | ref _ _ b hb qF =>
      have hu:=(hT t _ ht).d;have dz:=zw (w:=w) (hT et ti fP);obtain⟨m,rfl,hm,hk,_⟩:=zko n 0 r o hk;have ew:(ac2 t (.pointer (some ⟨b,o,none⟩)) (.int q (m:Int))).run P w = .ok (.pointer (some ⟨b,o+m*ti.size,none⟩)) w:=by
       have Ai:m<n:=by omega
       simp[ac2,asIntOf,aci,run_underlying hu,dz,mu,Ai,ac5]
      refine Good.v st ew (.ref r _ b hb qF) ?_;simpa using hk
    ·cases hk
   ·cases hk
  ·cases hk
 ·rename_i t x i ho;simp only[ho];have hx:=he.ev x;have hi:=he.ev i;split at hk
  ·rename_i s q n eW je;split at hk
   ·rename_i ht;rw[eW]at hx;rw[je]at hi;obtain⟨xz,_⟩:=zj hi;rw[xz];obtain⟨bs,l7,hb,_⟩:=zq hx;rw[l7];have hu:=(hT t _ ht).d;cases nj:idx s n with
    |none=>rw[nj]at hk;simp at hk
    | some el =>
     rw[nj]at hk;simp only[acD]at hk;obtain⟨m,rfl,hm,lO⟩:=LB nj;refine Good.v st (v:=.int .u8 el.toNat) ?_ (.int _ _ fun _=>⟨by omega,by have:=el.toNat_lt;omega⟩) hk;have CK:bs[m]? = some el:=by
      subst hb;rw[←lO];have dz:bs.size=bs.data.toList.length:=qe bs;have:m<bs.size:=by omega
      rw[getElem?_pos bs m this];rw[acp hm];rfl
     simp[Instr.index,asIntOf,aci,run_underlying hu,CK]
   ·cases hk
  ·rename_i cs q n eW je;split at hk
   ·rename_i len et _ _ _ _ _ _ ht;split at hk
    ·rename_i ei fP;rw[eW]at hx;rw[je]at hi;obtain⟨xz,_⟩:=zj hi;rw[xz];generalize a.eval x=xv at hx;have hu:=(hT t _ ht).d;cases hx with
     |agg vs _ hl h1 =>
      have hR:ak w G vs.toList cs:=⟨by simpa using hl,fun i v c hv hc=>h1 i v c (by simpa using hv) hc⟩;obtain⟨m,rfl,hm,u,v,hr,xy,hk⟩:=ziq (P:=P) (w:=w) (G:=G) (hT et ei fP) (cs:=vs) len 0 cs (by simpa using hR) hk;refine Good.v st (v:=u) ?_ xy hk;have dz:=zw (w:=w) (hT et ei fP);have Ai:m<len:=by omega
      simp[Instr.index,asIntOf,aci,run_underlying hu,dz,hr,Ai]
    ·cases hk
   ·cases hk
  ·cases hk
 ·rename_i t i ho;simp only[ho];have hx:=he.ev t;split at hk
  ·rename_i vs iz;split at hk
   ·rename_i v hv;rw[iz]at hx;generalize a.eval t=xv at hx;cases hx with
    |cr us _ hl h1 =>
     rw[zo]at hv;have bo:i<us.size:=by have:=(ab9.1 hv).1;omega
     have pf:us[i]? = some us[i]:=Array.getElem?_eq_getElem bo;refine Good.v st (v:=us[i]) ?_ (h1 i _ v pf hv) hk;simp[Instr.extract,pf]
   ·cases hk
  ·cases hk
 ·rename_i c ho;simp only[ho];split at hk
  ·rename_i b hb;have gv:ak w G (c.args.map a.eval).toList (lY cx e c.argTypes.toList c.args.toList):=by rw[Array.toList_map];exact Gm cx he _ _
   have hg:∀cs,Good P B0 w0 G w k r ((builtin b c.argTypes o.type cs (c.args.map a.eval)).run P w):=fun cs=>zfz hT st gv hk;simp only[resolve,hb,aci,acL,aco,invoke];exact hg _
  ·rename_i f hf;exact absurd hf (EO c f ho)
  ·cases hk
 ·cases hk
end
end Go.AM
namespace Go.AM
open Go.RowKit
section
variable {P:Program} {w:World} {G:GS}
theorem jG{G0 G:GS}(h:Ext G0.base G0 G):G0.base.le G.base:=by
 have key:∀{α:Type}(a b:List α),(∀r,r<a.length→∃x,b[r]? = some x)→a.length≤b.length:=by
  intro α a b h;by_cases h0:a.length=0
  ·omega
  ·obtain⟨x,hx⟩:=h (a.length - 1) (by omega);have:=(ab9.1 hx).1;omega
 refine⟨key _ _ fun r hr=>by
  rcases h.bx r hr with⟨e,_⟩ |⟨_,_,b,e⟩ |⟨_,_,b,e⟩
  ·exact⟨_,e.trans (acp hr)⟩
  ·exact⟨b,e⟩
  ·exact⟨b,e⟩,key _ _ fun t ht => ?_,key _ _ fun j hj=>⟨_,(h.lp j hj).trans (acp hj)⟩⟩
 obtain⟨o,o',_,h2,_⟩:=h.tk t ht;exact⟨_,h2⟩
theorem Vr{a b:Ty}{l:List a.den}{m:List b.den}(h:gW a b l=some m):∃e:a=b,m=e▸l:=by
 unfold gW at h;split at h
 ·rename_i hb;exact⟨Ty.beq_eq _ _ hb,(ach h).symm⟩
 ·cases h
theorem jw{X:Type}{h:H}{r v:Nat}{τ:Ty}{k:List τ.den→Option X}{x:X}(hk:ow h r v τ k=some x):∃l,h.bx[r]? = some [.row v τ l]∧k l=some x∧∀(h2:H)(k2:List τ.den→Option X),h2.bx[r]? = some [.row v τ l]→ow h2 r v τ k2=k2 l:=by
 unfold ow at hk;rw[zo]at hk;split at hk
 ·rename_i cs dy;split at hk
  ·rename_i v' τ' l;split at hk
   ·rename_i l' hl;have l9:=(zf hk).1;have kg:=(zf hk).2;clear hk;rw[b_]at l9;subst l9;obtain⟨e,rfl⟩:=Vr hl;subst e;refine⟨l,dy,kg,fun h2 k2 h3 => ?_⟩;unfold ow;rw[zo,h3];simp only[hl,Nat.beq_refl,cond_true]
   ·cases hk
  ·cases hk
 ·cases hk
structure uW (B0:Nat) (w:World) (G:GS) (r v:Nat) (τ:Ty) (l:List τ.den) (q:Option Nat) (cap:Nat):Prop where
 hb:G.bx[r]? = some q
 hv:G.bv r=⟨v,l.length,cap,τ.size⟩
 v0:0<v
 z0:0<τ.size
 lc:l.length≤cap
 lm:l.length≤ai
 wh:(q=none∧l=[]∧cap=0)∨∃b vs t,q=some b∧B0≤b∧w.heap[b]? = some (.cells vs t (0,0))∧vs.size=cap*τ.size∧bf (fun x us=>al w G.D τ x us) l (vs.toList.take (l.length*τ.size))
 tg:∀b vs t,q=some b→w.heap[b]? = some (.cells vs t (0,0))→oX τ t=true
 v1:v=1→cap=l.length
theorem ET{r v n:Nat}{τ:Ty}{x:Value}(h:af w G x (.ms r v n τ)):0<v:=by cases h;assumption
theorem ztm{r v off:Nat}{i:Int}{τ:Ty}{x:Value}(h:af w G x (.ep r v i off τ)):0<v:=by cases h;assumption
theorem St.rowAt{B0:Nat}{w0:Wd}{h:H}(s:St B0 w0 G h w){r v:Nat}{τ:Ty}{l:List τ.den}(hq:h.bx[r]? = some [.row v τ l])(qF:0<v):∃q cap,uW B0 w G r v τ l q cap:=by
 have hr:r<G.bx.length:=by rw[←s.eb];exact(ab9.1 hq).1
 have hb:G.bx[r]? = some G.bx[r]:=acp hr;generalize G.bx[r]=q at hb;cases q with
 |none =>
  rcases s.fl r _ hb hq with⟨v',τ',e,h0,hz,hv⟩ |⟨e,e0⟩
  case inr =>simp only[hole,acE,AV.row.injEq,and_true]at e;omega
  simp only[acE,AV.row.injEq,and_true]at e;obtain⟨rfl,rfl,e⟩:=e;have e:=eq_of_heq e;subst e;exact⟨none,0,hb,hv,h0,hz,acQ _,Nat.zero_le _,.inl ⟨rfl,rfl,rfl⟩,fun b _ _ e=>(by cases e),fun _=>rfl⟩
 |some b =>
  obtain⟨hB,ob,hh,hR⟩:=s.box r b _ hb hq;obtain⟨vs,t,rfl,hR,jd⟩:=hR.row;generalize dy:[AV.row v τ l]=cs at hR;cases hR with
  |box _ hn _ _=>subst dy;cases hn
  |row v' τ' l' cap h0 hv hz hc hm hs hl h1 =>simp only[acE,AV.row.injEq,and_true]at dy;obtain⟨rfl,rfl,e⟩:=dy;have e:=eq_of_heq e;subst e;exact⟨some b,cap,hb,hv,h0,hz,hc,hm,.inr ⟨b,vs,t,rfl,hB,hh,by simpa using hs,hl⟩,fun b' l_ t' e h'=>by obtain rfl:=ach e;rw[hh]at h';cases h';exact jd,h1⟩
theorem uW.ms{B0 r v n cap:Nat}{τ:Ty}{l:List τ.den}{q:Option Nat}(R:uW B0 w G r v τ l q cap){x:Value}(hx:af w G x (.ms r v n τ)):n=l.length∧∃A,x = .slice A l.length cap∧∀b,q=some b→A=some ⟨b,0,none⟩:=by
 cases hx with
 |ms _ _ _ _ _ h0 hs h =>obtain⟨q',hb,hle,oH⟩:=h;rw[R.hb]at hb;obtain rfl:=ach hb;rw[R.hv]at oH;obtain⟨_,hn,A,hA,hAb⟩:=oH rfl;simp only at hn hA;subst hn;exact⟨rfl,A,hA,hAb⟩
theorem uW.ep{B0 r v off cap:Nat}{i:Int}{τ:Ty}{l:List τ.den}{q:Option Nat}(R:uW B0 w G r v τ l q cap){x:Value}(hx:af w G x (.ep r v i off τ)) :
 0≤i∧i<l.length∧∃b vs t,q=some b∧x = .pointer (some ⟨b,i.toNat*τ.size+off,none⟩)∧B0≤b∧w.heap[b]? = some (.cells vs t (0,0))∧vs.size=cap*τ.size∧bf (fun x us=>al w G.D τ x us) l (vs.toList.take (l.length*τ.size)):=by
 cases hx with
 |ep _ _ _ _ _ _ h0 hs h =>
  obtain⟨q',hb,hle,oH⟩:=h;rw[R.hb]at hb;obtain rfl:=ach hb;rw[R.hv]at oH;obtain⟨_,h1,h2,h3⟩:=oH rfl;simp only at h2;refine⟨h1,h2,?_⟩;rcases R.wh with⟨_,e,_⟩ |⟨b,vs,t,e,hB,hh,hs,hl⟩
  ·subst e;simp at h2;omega
  ·exact⟨b,vs,t,e,h3 b e,hB,hh,hs,hl⟩
theorem zqd{r:Nat}{g:tz}{q:Option Nat}{D':Nat→Nat→Prop}(hD:∀b o,G.D b o→D' b o)(hr:r<G.bx.length)(h0:0<(G.bv r).v)(h1:(G.bv r).v<g.v) :
 Ext G.base G { G with D:=D',bx:=G.bx.set r q,bv:=fun x=>if x=r then g else G.bv x }:=
 { D := hD
   bx:=fun x _=>by
    by_cases hx:x=r
    ·subst hx;exact .inr (.inl ⟨h0,by simp only[if_pos];exact h1,q,by simp[hr]⟩)
    ·exact .inl ⟨by simp only[acn,ac8 hx,if_false],by simp only[hx,if_false]⟩
   tk:=(Ext.refl (cF.le_refl _)).tk
   lp:=fun _ _=>rfl
   df:=rfl }
theorem St.freeze{B0:Nat}{w0:Wd}{h:H}(s:St B0 w0 G h w){r v n:Nat}{τ:Ty}{l:List τ.den}(hq:h.bx[r]? = some [.row v τ l]){x:Value}(hx:af w G x (.ms r v n τ)) :
 ∃G',Ext G.base G G'∧St B0 w0 G' { h with bx:=dF h.bx r [.row (v+1) τ []] } w∧af w G' x (.sl τ l .eY)∧G'.bx=G.bx.set r none∧G'.tk=G.tk:=by
 obtain⟨q,cap,R⟩:=s.rowAt hq (ET hx);obtain⟨rfl,A,rfl,hA⟩:=R.ms hx;have oI:r<G.bx.length:=(ab9.1 R.hb).1;have DM:r<h.bx.length:=by rw[s.eb];exact oI
 let D':Nat→Nat→Prop:=fun x o=>G.D x o∨(q=some x∧o<l.length*τ.size)
 have LA:∀b o,G.D b o→D' b o:=fun _ _ h => .inl h;have iT:Ext G.base G { G with D:=D',bx:=G.bx.set r none,bv:=fun x=>if x=r then⟨v+1,0,0,τ.size⟩else G.bv x }:=zqd LA oI (by rw[R.hv];exact R.v0) (by rw[R.hv];exact adm v)
 have ma:∀b,some b∈G.bx.set r none→∃x,x≠r∧G.bx[x]? = some (some b):=fun b hb=>by
  obtain⟨x,hx⟩:=acH hb;rw[acn]at hx;split at hx
  ·simp[oI]at hx
  ·rename_i c_;exact⟨x,ac8 c_,hx⟩
 have aBk:l.length*τ.size≤cap*τ.size:=acZ _ R.lc;refine⟨_,iT,?_,?_,rfl,rfl⟩
 ·exact
  { below := s.below
    b0:=s.b0
    eb:=by simp[zk,s.eb]
    box := fun x b cs h1 h2=>by
     simp only[zk,acn]at h1 h2;by_cases k8:r=x
     ·subst k8;simp[oI]at h1
     ·rw[if_neg k8]at h1 h2;obtain⟨hB,ob,hh,hr⟩:=s.box x b cs h1 h2;exact⟨hB,ob,hh,hr.eJ iT (bg.refl _ _) (by simp[ac8 k8])⟩
    fl:=fun x cs h1 h2=>by
     simp only[zk,acn]at h1 h2;by_cases k8:r=x
     ·subst k8;rw[if_pos rfl,if_pos DM]at h2;exact .inl ⟨v+1,τ,(ach h2).symm,ado v,R.z0,by simp⟩
     ·rw[if_neg k8]at h1 h2;rcases s.fl x cs h1 h2 with⟨v',τ',e1,e2,e3,e4⟩ |⟨e1,e2⟩
      ·exact .inl ⟨v',τ',e1,e2,e3,by simp only[ac8 k8,if_false];exact e4⟩
      ·exact .inr ⟨e1,by simp only[ac8 k8,if_false];exact e2⟩
    inj := fun x x' b h1 h2=>by
     simp only[acn]at h1 h2;by_cases k8:r=x
     ·subst k8;simp[oI]at h1
     ·by_cases tM:r=x'
      ·subst tM;simp[oI]at h2
      ·rw[if_neg k8]at h1;rw[if_neg tM]at h2;exact s.inj x x' b h1 h2
    ec := fun b o hd=>by
     rcases hd with hd|⟨sL,ho⟩
     ·refine⟨(s.ec b o hd).1,fun hm => ?_⟩;obtain⟨x,_,hx⟩:=ma b hm;exact(s.ec b o hd).2 (acx hx)
     ·refine⟨?_,fun hm => ?_⟩
      ·rcases R.wh with⟨e,_⟩ |⟨b',vs,t,e,hB,hh,hs,hl⟩
       ·rw[e]at sL;cases sL
       ·rw[e]at sL;obtain rfl:=ach sL;rw[zy hh];exact⟨vs[o]'(by omega),by simp[show o<vs.size from by omega]⟩
      ·obtain⟨x,c_,hx⟩:=ma b hm;have:=R.hb;rw[sL]at this;exact c_ (s.inj x r b hx this)
    fo:=fun b o hd=>by
     rcases hd with hd|⟨sL,ho⟩
     ·exact s.fo b o hd
     ·rcases R.wh with⟨e,_⟩ |⟨b',vs,t,e,hB,_⟩
      ·rw[e]at sL;cases sL
      ·rw[e]at sL;obtain rfl:=ach sL;exact .inr hB
    fO:=s.fO
    tok := fun t g ht=>by
     obtain⟨h1,h2⟩:=s.tok t g ht;refine⟨h1,fun bo => ?_⟩;obtain⟨b,hA,hB,hn,cs,et,fr,hh,hc,hi⟩:=h2 bo;refine⟨b,hA,hB,fun hm => ?_,cs,et,fr,hh,hc,fun i i1 i2=>⟨fun hd => ?_,(hi i i1 i2).2⟩⟩
     ·obtain⟨x,_,hx⟩:=ma b hm;exact hn (acx hx)
     ·rcases hd with hd|⟨sL,_⟩
      ·exact(hi i i1 i2).1 hd
      ·have:=R.hb;rw[sL]at this;exact hn (acx this)
    gA:=s.gA
    fU:=s.fU
    loop:=s.loop
    ie:=s.ie
    gu:=s.gu
    ig:=s.ig }
 ·refine .sl τ l .eY _ ?_ trivial;simp only[al];rcases R.wh with⟨e,e2,e3⟩ |⟨b,vs,t,e,hB,hh,hs,hl⟩
  ·subst e2;exact⟨R.lm,A,cap,[],rfl,R.lc,rfl,fun h=>absurd h (by simp)⟩
  ·refine⟨R.lm,A,cap,vs.toList.take (l.length*τ.size),rfl,R.lc,bf.mono _ _ (fun x _ us hx=>al.mono LA (bg.refl _ _) τ x us hx) hl,fun _=>⟨b,0,hA b e,fun j u hj => ?_⟩⟩;rw[acv]at hj;split at hj
   ·rename_i bo;refine⟨.inr ⟨e,by omega⟩,?_⟩;rw[acK,zy hh,←acq];exact hj
   ·cases hj
theorem LJ{X:Type}{B0:Nat}{w0:Wd}{h:H}(s:St B0 w0 G h w){a:AV}{x:Value}(hx:af w G x a){k:AV→H→Option X}{r:X}(hk:Bw a h k=some r) :
 ∃a' G' h',Ext G.base G G'∧St B0 w0 G' h' w∧af w G' x a'∧k a' h'=some r:=by
 unfold Bw at hk;split at hk
 ·obtain⟨l,hq,hk,_⟩:=jw hk;obtain⟨G',h1,h2,h3⟩:=s.freeze hq hx;exact⟨_,G',_,h1,h2,h3.1,hk⟩
 ·exact⟨a,G,h,Ext.refl (cF.le_refl _),s,hx,hk⟩
theorem LK{X:Type}{B0:Nat}{w0:Wd}{w:World}:∀(vs:List AV)(xs:List Value)(G:GS)(h:H)(k:List AV→H→Option X)(r:X),St B0 w0 G h w→ak w G xs vs→vP vs h k=some r →
 ∃l_ G' h',Ext G.base G G'∧St B0 w0 G' h' w∧ak w G' xs l_∧l_.length=vs.length∧k l_ h'=some r
 |[],xs,G,h,k,r,s,hx,hk=>⟨[],G,h,Ext.refl (cF.le_refl _),s,hx,rfl,hk⟩
 |a::vs,[],G,h,k,r,s,hx,hk=>by have:=hx.1;simp at this
 |a::vs,x::xs,G,h,k,r,s,hx,hk=>by obtain⟨h1,h2⟩:=hx.tail;simp only[vP]at hk;obtain⟨a',G1,h',e1,s1,r1,hk⟩:=LJ s h1 hk;obtain⟨l_,G2,Gt,e2,s2,r2,hl,hk⟩:=LK vs xs G1 h' _ r s1 (h2.mono e1 (bg.refl _ _)) hk;exact⟨a'::l_,G2,Gt,e1.trans (e2.mono (jG e1)),s2,.cons (r1.mono e2 (bg.refl _ _)) r2,by simp[hl],hk⟩
theorem St.BJ{B0:Nat}{w0:Wd}{h:H}(s:St B0 w0 G h w){τ:Ty}(hz:0<τ.size) :
 ∃G',Ext G.base G G'∧St B0 w0 G' { h with bx:=h.bx++[[.row 1 τ []]] } w∧af w G' (.slice none 0 0) (.ms h.bx.length 1 0 τ):=by
 have ix:∀r,r<G.bx.length→(fun r=>if r=G.bx.length then(⟨1,0,0,τ.size⟩:tz)else G.bv r) r=G.bv r:=fun r hr=>if_neg (by omega)
 have hx:Ext G.base G { G with bx:=G.bx++[none],bv:=fun r=>if r=G.bx.length then⟨1,0,0,τ.size⟩else G.bv r }:=
  { D := fun _ _ x=>x
    bx:=fun r hr=>by have:r<G.bx.length:=hr;exact .inl ⟨by simp[acd this],ix r this⟩
    tk:=(Ext.refl (cF.le_refl _)).tk
    lp:=fun _ _=>rfl
    df:=rfl }
 have tN:∀(r b:Nat),(G.bx++[none])[r]? = some (some b)→G.bx[r]? = some (some b):=fun r b hr=>by
  by_cases h1:r<G.bx.length
  ·rwa[acd h1]at hr
  ·rw[ace (Nat.le_of_not_lt h1)]at hr;have:=(ab9.1 hr).1;have e0:r - G.bx.length=0:=by simp at this;omega
   rw[e0]at hr;simp at hr
 have fY:∀b,some b∈G.bx++[none]→some b∈G.bx:=fun b hb=>by simpa using hb
 refine⟨_,hx,?_,?_⟩
 ·exact
  { below:=s.below
    b0:=s.b0
    eb:=by simp[s.eb]
    box:=fun r b cs h1 h2=>by have h1:=tN r b h1;have hr:r<G.bx.length:=(ab9.1 h1).1;simp only[acd (by rw[s.eb];exact hr:r<h.bx.length)]at h2;obtain⟨hB,ob,hh,qb⟩:=s.box r b cs h1 h2;exact⟨hB,ob,hh,qb.eJ hx (bg.refl _ _) (ix r hr)⟩
    fl:=fun r cs h1 h2=>by
     by_cases hr:r<G.bx.length
     ·simp only[acd hr]at h1;simp only[acd (by rw[s.eb];exact hr:r<h.bx.length)]at h2;rcases s.fl r cs h1 h2 with⟨v,τ',e1,e2,e3,e4⟩ |⟨e1,e2⟩
      ·exact .inl ⟨v,τ',e1,e2,e3,(ix r hr).trans e4⟩
      ·exact .inr ⟨e1,(congrArg tz.v (ix r hr)).trans e2⟩
     ·simp only[ace (by rw[s.eb];exact Nat.le_of_not_lt hr:h.bx.length≤r)]at h2;have fN:=(ab9.1 h1).1;have e0:r - h.bx.length=0:=by simp at fN;rw[s.eb];omega
      rw[e0]at h2;simp at h2;subst h2;have er:r=G.bx.length:=by simp at fN;omega
      exact .inl ⟨1,τ,rfl,adu,hz,by rw[er];simp⟩
    inj:=fun r r' b h1 h2=>s.inj r r' b (tN r b h1) (tN r' b h2)
    ec:=fun b o hd=>⟨(s.ec b o hd).1,fun hm=>(s.ec b o hd).2 (fY b hm)⟩
    fo:=s.fo
    fO:=s.fO
    tok:=fun t g ht=>by obtain⟨h1,h2⟩:=s.tok t g ht;refine⟨h1,fun bo => ?_⟩;obtain⟨b,hA,hB,hn,rest⟩:=h2 bo;exact⟨b,hA,hB,fun hm=>hn (fY b hm),rest⟩
    gA:=s.gA
    fU:=s.fU
    loop:=s.loop
    ie:=s.ie
    gu:=s.gu
    ig:=s.ig }
 ·refine .ms _ _ _ _ _ adu ⟨none,0,rfl,fun h=>absurd h (by omega)⟩ ⟨none,by simp[s.eb],?_,fun _=>⟨?_,?_,none,?_,fun b hb=>by cases hb⟩⟩
  ·rw[s.eb];simp
  ·rw[s.eb];simp
  ·rw[s.eb];simp
  ·rw[s.eb];simp
end
end Go.AM
namespace Go.AM
open Go.RowKit
section
variable {P:Program} {w:World} {G:GS}
theorem zws{B0:Nat}{w0:Wd}{h:H}(s:St B0 w0 G h w){t:Nat}{ti:TI}(gB:nc P t ti){r v off:Nat}{i:Int}{τ:Ty}{l:List τ.den}{x:Value}(hx:af w G x (.ep r v i off τ))(hq:h.bx[r]? = some [.row v τ l])
 {el:τ.den} (hi:idx l i=some el) {cs:List AV} (hc:takeN ti.size (nS off (τ.cells el))=some cs) {av:AV} (hm:jD ti.agg cs=some av):∃u,(Instr.loadAt t x).run P w = .ok u w∧af w G u av:=by
 obtain⟨q,cap,R⟩:=s.rowAt hq (ztm hx);obtain⟨h0,h1,b,vs,ty,_,rfl,hB,hh,hs,bX⟩:=R.ep hx;obtain⟨m,rfl,EL,lO⟩:=LB hi;simp only[Int.toNat_natCast];have ES:=bf.at (sz:=τ.size) (fun x vs hx=>i_ hx) bX m el lO;have lI:=tD (w:=w) (G:=G) τ el _ ES;rw[rJ]at hc;obtain⟨e1,e2⟩:=EH _ _ _ hc;have hR:=(lI.drop off).take ti.size;rw[←e1]at hR;have hlen:=hR.1;rw[e2]at hlen
 obtain⟨u,hu,fG⟩:=U0 (w:=w) (G:=G) gB (b:=b) (o:=m*τ.size+off) hlen (fun j u hj=>by
  rw[zy hh,←acq];simp only[acv,acF]at hj;split at hj
  ·split at hj
   ·split at hj
    ·rw[←hj];congr 1;omega
    ·cases hj
   ·cases hj
  ·cases hj) hR hm
 refine⟨u,?_,fG⟩;simp only[Instr.loadAt,ac5,aci,acL,aco];exact hu
theorem zrn{α:Type}(A Y:List α)(M S off L:Nat)(h1:off+Y.length≤S)(h2:M+S≤L)(h3:L≤A.length) :
 (A.take (M+off)++Y++A.drop (M+off+Y.length)).take L=(A.take L).take M++((((A.take L).drop M).take S).take off++Y++(((A.take L).drop M).take S).drop (off+Y.length))++(A.take L).drop (M+S):=by
 apply adf;intro j;have e1:(A.take (M+off)).length=M+off:=by simp;omega
 have e2:((A.take L).take M).length=M:=by simp;omega
 have e3:((((A.take L).drop M).take S).take off).length=off:=by simp;omega
 have e4:((((A.take L).drop M).take S).drop (off+Y.length)).length=S - (off+Y.length):=by simp;omega
 have e5:(A.take (M+off)++Y).length=M+off+Y.length:=by simp;omega
 have e6:((((A.take L).drop M).take S).take off++Y).length=off+Y.length:=by rw[acy,e3]
 have e7:((((A.take L).drop M).take S).take off++Y++(((A.take L).drop M).take S).drop (off+Y.length)).length=S:=by rw[acy,e6,e4];omega
 have e8:((A.take L).take M++((((A.take L).drop M).take S).take off++Y++(((A.take L).drop M).take S).drop (off+Y.length))).length=M+S:=by rw[acy,e2,e7]
 rw[acv];by_cases hj:j<L
 ·rw [if_pos hj];by_cases c1:j<M
  ·rw[acd (by omega),acd (by omega),acd (by omega),acd (by omega)];simp only[acv];rw[if_pos (by omega),if_pos c1,if_pos hj]
  ·by_cases c2:j<M+S
   ·rw[acd (l₁:=(A.take L).take M++_) (by omega),ace (by omega:((A.take L).take M).length≤j),e2];by_cases c3:j<M+off
    ·rw[acd (by omega),acd (by omega),acd (by omega),acd (by omega)];simp only[acv,acF];rw[if_pos c3,if_pos (by omega),if_pos (by omega),if_pos (by omega)];congr 1;omega
    ·by_cases c4:j<M+off+Y.length
     ·rw[acd (by omega),ace (by omega),acd (by omega),ace (by omega),e1,e3];congr 1;omega
     ·rw[ace (by omega),ace (by omega),e5,e6];simp only[acv,acF];rw[if_pos (by omega),if_pos (by omega)];congr 1;omega
   ·rw[ace (by omega),ace (by omega),e5,e8];simp only[acv,acF];rw[if_pos (by omega)];congr 1;omega
 ·rw[if_neg hj,ace (by omega),e8];simp only[acv,acF];rw[if_neg (by omega)]
theorem bf.set{α:Type}{p:α→List Value→Prop}{sz:Nat}(hp:∀x vs,p x vs→vs.length=sz){z:α}{vz:List Value}(hz:p z vz):∀{l:List α}{us:List Value},bf p l us→∀(i:Nat),i<l.length→bf p (l.set i z) (us.take (i*sz)++vz++us.drop (i*sz+sz))
 |[],us,h,i,hi=>by simp at hi
 |y::l,us,h,0,hi=>by obtain⟨v1,v2,rfl,h1,h2⟩:=h;refine⟨vz,v2,?_,hz,h2⟩;have:=hp _ _ h1;simp[←this]
 |y::l,us,h,i+1,hi=>by obtain⟨v1,v2,rfl,h1,h2⟩:=h;have h0:=hp _ _ h1;refine⟨v1,v2.take (i*sz)++vz++v2.drop (i*sz+sz),?_,h1,bf.set hp hz h2 i (by simpa using hi)⟩;rw[show(i+1)*sz=v1.length+i*sz from by rw[adt,h0];omega];rw[List.take_append,acJ (Nat.le_add_right _ _),Nat.add_assoc,List.drop_append,List.drop_eq_nil_of_le (Nat.le_add_right _ _)];simp[acY]
theorem ztn{B0:Nat}{w0:Wd}{h:H}(s:St B0 w0 G h w){t:Nat}{ti:TI}(gB:nc P t ti){r v off:Nat}{i:Int}{τ:Ty}{l:List τ.den}{x y:Value}(hx:af w G x (.ep r v i off τ))(hq:h.bx[r]? = some [.row v τ l])
 {c:AV} (hy:af w G y c) (hlen:(cellsOf c).length=ti.size) (tF:tf (cellsOf c)=true) (oA:0<ti.size) {el:τ.den} (hi:idx l i=some el) {ds:List AV} (qd:gz off (cellsOf c) (τ.cells el)=some ds) {z:τ.den} (hof:τ.of ds=some (z,[])) :
 ∃w',(Instr.storeAt t x y).run P w = .ok () w'∧bg G.D w w'∧St B0 w0 G { h with bx:=dF h.bx r [.row v τ (dF l i.toNat z)] } w':=by
 obtain⟨q,cap,R⟩:=s.rowAt hq (ztm hx);obtain⟨h0,h1,b,vs,ty,sL,rfl,hB,hh,hs,bX⟩:=R.ep hx;obtain⟨m,rfl,EL,lO⟩:=LB hi;simp only[Int.toNat_natCast];have c_:c ≠ .any:=wv (by omega);have hR:=wu hy c_;have CB:=UY hR tF;have LL:y.cells.toList.length=ti.size:=by rw[hR.1,hlen]
 have ES:=bf.at (sz:=τ.size) (fun x vs hx=>i_ hx) bX m el lO;have lI:=tD (w:=w) (G:=G) τ el _ ES;have Gu:=i_ ES;rcases F' _ _ _ _ qd with⟨hle,oB⟩ |⟨tA,_⟩
 ·have gU:(τ.cells el).length=τ.size:=by rw[←lI.1];exact Gu
  have Vs:m*τ.size+τ.size≤l.length*τ.size:=by have:=acZ τ.size (show m+1≤l.length from EL);rw[adt,Nat.one_mul]at this;exact this
  have sE:l.length*τ.size≤cap*τ.size:=acZ _ R.lc;have ew:=nz (P:=P) b (m*τ.size+off) ty (0,0) y.cells.toList 0 vs w hh (fun j _=>by simp[World.frozen?,hh]) (by rw[LL];omega) CB;simp only[Nat.add_zero]at ew;generalize xj:(vs.toList.take (m*τ.size+off)++y.cells.toList++vs.toList.drop (m*τ.size+off+y.cells.toList.length)).toArray=nv at ew;have tG:nv.toList=vs.toList.take (m*τ.size+off)++y.cells.toList++vs.toList.drop (m*τ.size+off+y.cells.toList.length):=by rw[←xj]
  have nf:nv.size=vs.size:=by rw[←xj];simp only[adx,acy,adA,List.length_drop,acr,LL];omega
  have EU:G.bx[r]? = some (some b):=by rw[R.hb,sL]
  have tO:Ext G.base G G:=Ext.refl (cF.le_refl _);have CE:isRow (cellsOf c)=false:=hR.oZ
  obtain⟨hk,gQ⟩:=s.Ab (ds:=[.row v τ (dF l m z)]) EU hh hB nf (fun hk=>by
   refine .row _ v τ (dF l m z) cap R.v0 (by rw[zk,acN];exact R.hv) R.z0 (by rw[zk,acN];exact R.lc) (by rw[zk,acN];exact R.lm) (by rw[acr,nf,hs]) ?_ (fun e=>by rw[zk,acN];exact R.v1 e);rw[zk,acN,tG,zrn _ _ (m*τ.size) τ.size off (l.length*τ.size) (by rw[LL];omega) Vs (by have e9:vs.toList.length=vs.size:=acr;omega)];have Gv:al w G.D τ z ((((vs.toList.take (l.length*τ.size)).drop (m*τ.size)).take τ.size).take off++y.cells.toList++(((vs.toList.take (l.length*τ.size)).drop (m*τ.size)).take τ.size).drop (off+y.cells.toList.length)):=by have e1:=((lI.take off).append hR).append (lI.drop (off+(cellsOf c).length));rw[←oB,←hR.1]at e1;obtain⟨v1,v2,e2,e3,e4⟩:=Gh τ _ _ _ _ e1 hof;have:v2=[]:=acs e4.1;rw[this,adp]at e2;rw[e2];exact e3
   refine bf.mono _ _ (fun x _ us hx=>al.mono (fun _ _ hd=>hd) hk τ x us hx) ?_;exact bf.set (p:=fun x us=>al w G.D τ x us) (sz:=τ.size) (fun x vs hx=>i_ hx) Gv bX m EL) (EG (R.tg b vs ty sL hh))
  refine⟨w.setRow b nv,?_,hk,gQ⟩;simp only[Instr.storeAt,ac5,storeVar,aci,acL,aco,zw gB];rw[if_neg (by simpa using LL)];exact ew
 ·rw[tA]at hlen;simp at hlen;omega
theorem St.CL{B0:Nat}{w0:Wd}{h:H}(s:St B0 w0 G h w){r:Nat}{g:tz}{q':Option Nat}{ds:List AV}(hr:r<G.bx.length)(h0:0<(G.bv r).v)(h1:(G.bv r).v<g.v)
 (hq:(q'=none∧∃v τ,ds=[.row v τ []]∧0<v∧0<τ.size∧g=⟨v,0,0,τ.size⟩)∨∃b vs t,q'=some b∧B0≤b∧w.heap[b]? = some (.cells vs t (0,0))∧(∀x,G.bx[x]? = some (some b)→x=r)∧(∀o,¬G.D b o) ∧
  (∀(t:Nat)(g0:Tk),G.tk[t]? = some (some g0)→g0.n<g0.cap→g0.A≠some b)∧(∀G':GS,Ext G.base G G'→G'.D=G.D→G'.bv r=g→iS w G' r vs.toList ds)∧∀T,iQ ds=some T→t=T) :
 ∃G',Ext G.base G G'∧St B0 w0 G' { h with bx:=dF h.bx r ds } w∧G'.bx[r]? = some q'∧G'.bv r=g∧G'.D=G.D:=by
 have DM:r<h.bx.length:=by rw[s.eb];exact hr
 have iT:Ext G.base G { G with D:=G.D,bx:=G.bx.set r q',bv:=fun x=>if x=r then g else G.bv x }:=zqd (fun _ _ h=>h) hr h0 h1
 have ma:∀b,some b∈G.bx.set r q'→some b∈G.bx∨q'=some b:=fun b hb=>by
  obtain⟨x,hx⟩:=acH hb;rw[acn]at hx;split at hx
  ·simp[hr]at hx;exact .inr hx
  ·exact .inl (acx hx)
 have hqD:∀b o,q'=some b→¬G.D b o:=fun b o e=>by
  rcases hq with⟨e',_⟩ |⟨b',vs,t,e',_,_,_,hd,_⟩
  ·rw[e]at e';cases e'
  ·rw[e]at e';obtain rfl:=ach e';exact hd o
 refine⟨_,iT,?_,by simp[hr],by simp,rfl⟩;exact
 { below := s.below
   b0:=s.b0
   eb:=by simp[zk,s.eb]
   box := fun x b cs e1 e2=>by
    simp only[zk,acn]at e1 e2;by_cases k8:r=x
    ·subst k8;rw[if_pos rfl,if_pos hr]at e1;rw[if_pos rfl,if_pos DM]at e2;obtain rfl:=ach e2;have e1:=ach e1;rcases hq with⟨e',_⟩ |⟨b',vs,t,e',hB,hh,_,_,_,hR,jd⟩
     ·rw[e1]at e';cases e'
     ·rw[e1]at e';obtain rfl:=ach e';exact⟨hB,_,hh,.cells _ _ _ (hR _ iT rfl (by simp)) jd⟩
    ·rw[if_neg k8]at e1 e2;obtain⟨hB,ob,hh,qb⟩:=s.box x b cs e1 e2;exact⟨hB,ob,hh,qb.eJ iT (bg.refl _ _) (by simp[ac8 k8])⟩
   fl:=fun x cs e1 e2=>by
    simp only[zk,acn]at e1 e2;by_cases k8:r=x
    ·subst k8;rw[if_pos rfl,if_pos hr]at e1;rw[if_pos rfl,if_pos DM]at e2;obtain rfl:=ach e2;have e1:=ach e1;rcases hq with⟨_,v,τ,g1,g2,g3,g4⟩ |⟨b',vs,t,e',_⟩
     ·exact .inl ⟨v,τ,g1,g2,g3,by simp[g4]⟩
     ·rw[e1]at e';cases e'
    ·rw[if_neg k8]at e1 e2;rcases s.fl x cs e1 e2 with⟨v',τ',e1,e2,e3,e4⟩ |⟨e1,e2⟩
     ·exact .inl ⟨v',τ',e1,e2,e3,by simp only[ac8 k8,if_false];exact e4⟩
     ·exact .inr ⟨e1,by simp only[ac8 k8,if_false];exact e2⟩
   inj := fun x x' b e1 e2=>by
    have key:∀y,(G.bx.set r q')[y]? = some (some b)→y≠r→G.bx[y]? = some (some b):=fun y hy c_=>by rw[acn,if_neg (ac8 c_)]at hy;exact hy
    have kr:(G.bx.set r q')[r]? = some (some b)→q'=some b:=fun hy=>by simpa[hr]using hy
    by_cases k8:x=r
    ·subst k8;by_cases tM:x'=x
     ·exact tM.symm
     ·have e3:=kr e1;have e4:=key _ e2 tM;rcases hq with⟨e',_⟩ |⟨b',vs,t,e',_,_,hu,_⟩
      ·rw[e3]at e';cases e'
      ·rw[e3]at e';obtain rfl:=ach e';exact absurd (hu _ e4) tM
    ·have e3:=key _ e1 k8;by_cases tM:x'=r
     ·subst tM;have e4:=kr e2;rcases hq with⟨e',_⟩ |⟨b',vs,t,e',_,_,hu,_⟩
      ·rw[e4]at e';cases e'
      ·rw[e4]at e';obtain rfl:=ach e';exact absurd (hu _ e3) k8
     ·exact s.inj x x' b e3 (key _ e2 tM)
   ec:=fun b o hd=>⟨(s.ec b o hd).1,fun hm=>by
    rcases ma b hm with hm|e
    ·exact(s.ec b o hd).2 hm
    ·exact hqD b o e hd⟩
   fo:=s.fo
   fO:=s.fO
   tok := fun t g0 ht=>by
    obtain⟨h1,h2⟩:=s.tok t g0 ht;refine⟨h1,fun bo => ?_⟩;obtain⟨b,hA,hB,hn,rest⟩:=h2 bo;refine⟨b,hA,hB,fun hm => ?_,rest⟩;rcases ma b hm with hm|e
    ·exact hn hm
    ·rcases hq with⟨e',_⟩ |⟨b',vs,t',e',_,_,_,_,hu,_⟩
     ·rw[e]at e';cases e'
     ·rw[e]at e';obtain rfl:=ach e';exact hu t g0 ht bo hA
   gA:=s.gA
   fU:=s.fU
   loop:=s.loop
   ie:=s.ie
   gu:=s.gu
   ig:=s.ig }
end
end Go.AM
namespace Go.AM
open Go.RowKit
section
variable {P:Program} {w:World} {G:GS}
theorem zqe{B0 r v n cap:Nat}{τ:Ty}{l:List τ.den}{q:Option Nat}(R:uW B0 w G r v τ l q cap){xv:Value}(hx:af w G xv (.ms r v n τ)){size:Nat}(hs:size=τ.size):∃news,uT P w G size τ l xv news:=by
 subst hs;obtain⟨rfl,A,rfl,hA⟩:=R.ms hx;rcases R.wh with⟨e,e2,e3⟩ |⟨b,vs,t,e,hB,hh,dz,bX⟩
 ·subst e2;exact⟨[],rfl,fun wx=>rfl,fun wx hc=>Ad (by simp) (fun h0=>absurd h0 (by simp))⟩
 ·have pf:(vs.toList.take (l.length*τ.size)).length=l.length*τ.size:=bf.length (fun x vs hx=>i_ hx) bX;refine⟨_,bX,fun wx=>rfl,fun wx hc=>Ad pf fun h0=>⟨b,0,hA b e,fun j u hj => ?_⟩⟩;rw[acv]at hj;split at hj
  ·rw[hc,acK,zy hh,←acq];exact hj
  ·cases hj
theorem zro{X:Type}{B0:Nat}{w0:Wd}{h:H}{k:AV→H→Option X}{y:X}(s:St B0 w0 G h w){t t2 et ty:TypeId}{i:TypeInfo}{z:Value}{d2:TypeDesc}
 (ht:P.underlying t=some (.slice et)) (kZ:P.underlying t2=some d2) (nY:∀k,d2 ≠ .int k) (hi:P.info? et=some i) (nZ:i.zero=some z) (Ae:z.cells.size=i.size)
 {r v n:Nat} {τ:Ty} (dz:i.size=τ.size) (EI:oX τ et=true) {l m:List τ.den} {sv xv:Value} {news:List Value} (hx:af w G sv (.ms r v n τ)) (hq:h.bx[r]? = some [.row v τ l]) (mw:uT P w G i.size τ m xv news)
 (hb:(l.length+m.length)*i.bytes≤2 ^ 46) (CE:0<i.bytes) (kB:i.bytes≤2 ^ 20) (hk:k (.ms r (v+1) (l++m).length τ) { h with bx:=dF h.bx r [.row (v+1) τ (l++m)] }=some y) :
 ∃val w',(acM #[t,t2] ty #[sv,xv]).run P w = .ok val w'∧Ends B0 w0 G w k y val w':=by
 obtain⟨q,cap,R⟩:=s.rowAt hq (ET hx);obtain⟨vR,hold⟩:=zqe (P:=P) R hx (size:=i.size) dz;obtain⟨rfl,A,rfl,hA⟩:=R.ms hx;have oI:r<G.bx.length:=(ab9.1 R.hb).1;have nK:l.length+m.length≤ai:=by
  have:l.length+m.length≤(l.length+m.length)*i.bytes:=Nat.le_mul_of_pos_right _ CE;have h3:(2:Nat) ^ 46≤ai:=by decide
  omega
 have hlen:∀(x:τ.den)(vs:List Value),al w G.D τ x vs→vs.length=τ.size:=fun x vs hx=>i_ hx;have sF:news.length=m.length*τ.size:=bf.length hlen mw.row;have hol:vR.length=l.length*τ.size:=bf.length hlen hold.row;have acU:(l.length+m.length)*τ.size=l.length*τ.size+m.length*τ.size:=adt _ _ _;have qF:0<(G.bv r).v:=by rw[R.hv];exact R.v0
 have fG:∀(G':GS)(w':World)(q':Option Nat)(c':Nat)(A':Option Addr),G'.bx[r]? = some q'→G'.bv r=⟨v+1,(l++m).length,c',τ.size⟩→(∀b,q'=some b→A'=some ⟨b,0,none⟩)→(0<(l++m).length→∃b,q'=some b) →
  af w' G' (.slice A' (l.length+m.length) c') (.ms r (v+1) (l++m).length τ):=fun G' w' q' c' A' h1 h2 h3 h4=>by
  have e:l.length+m.length=(l++m).length:=by simp
  rw[e];exact .ms _ _ _ _ _ (ado v) ⟨A',c',rfl,fun h0=>by obtain⟨b,hb⟩:=h4 h0;exact⟨b,0,h3 b hb⟩⟩ ⟨q',h1,by rw[h2];exact acQ _,fun _=>by rw[h2];exact⟨rfl,rfl,A',rfl,h3⟩⟩
 by_cases iy:l.length+m.length≤cap
 ·rcases R.wh with⟨e,e2,e3⟩ |⟨b,vs,vt,e,hB,hh,iz,bX⟩
  ·
   subst e2 e3;have hm:m=[]:=acs (by simpa using iy);subst hm;have U_:news=[]:=acs (by simpa using sF);subst U_;have ew:=xk (w:=w) (ty:=ty) (n:=0) (cap:=0) ht kZ nY hi (A:=A) (mw.len w) (mw.first w (fun _=>rfl)) (by simp) (w':=w) (fun a _=>rfl) (fun _=>rfl);obtain⟨G',h1,h2,h3,h4,_⟩:=s.CL (r:=r) (g:=⟨v+1,0,0,τ.size⟩) (q':=none) (ds:=[.row (v+1) τ []]) oI qF (by rw[R.hv];exact adm v) (.inl ⟨rfl,v+1,τ,rfl,ado v,R.z0,rfl⟩);exact⟨_,w,ew,_,G',_,h1,bg.refl _ _,h2,fG G' w none 0 A h3 h4 (fun b hb=>by cases hb) (fun h0=>absurd h0 (by simp)),hk⟩
  ·have EU:G.bx[r]? = some (some b):=by rw[R.hb,e]
   have eT:=hA b e;subst eT;have hcm:(l.length+m.length)*τ.size≤cap*τ.size:=acZ _ iy;have sG:=nz (P:=P) b (l.length*τ.size) vt (0,0) news 0 vs w hh (fun j _=>by simp[World.frozen?,hh]) (by omega) (U8 mw.row);simp only[Nat.add_zero]at sG;generalize xj:(vs.toList.take (l.length*τ.size)++news++vs.toList.drop (l.length*τ.size+news.length)).toArray=nv at sG;have tG:nv.toList=vs.toList.take (l.length*τ.size)++news++vs.toList.drop (l.length*τ.size+news.length):=by rw[←xj]
   have nf:nv.size=vs.size:=by rw[←xj];simp only[adx,acy,adA,List.length_drop,acr];omega
   have yG:(vs.toList.take (l.length*τ.size)).length=l.length*τ.size:=by simp only[adA,acr];omega
   have acV:nv.toList.take (l.length*τ.size)=vs.toList.take (l.length*τ.size):=by rw[tG,acY,acX (by omega),acJ (by omega)]
   have acW:nv.toList.take ((l.length+m.length)*τ.size)=vs.toList.take (l.length*τ.size)++news:=by rw[tG,acX (by rw[acy,yG,sF];omega),acJ (by rw[acy,yG,sF];omega)]
   have eM:=setRow_heap w b vs nv vt _ hh;obtain⟨eQ,s1⟩:=s.Ab (ds:=[.row v τ l]) EU hh hB nf (fun gC => .row _ v τ l cap R.v0 R.hv R.z0 R.lc R.lm (by rw[acr,nf,iz]) (by rw[acV];exact bf.mono _ _ (fun x _ us hx=>al.mono (fun _ _ hd=>hd) gC τ x us hx) bX) R.v1) (EG (R.tg b vs vt e hh))
   have ew:=xk (w:=w) (ty:=ty) (n:=l.length) (cap:=cap) ht kZ nY hi (A:=some ⟨b,0,none⟩) (mw.len w) (mw.first w (fun _=>rfl)) iy (w':=w.setRow b nv)
    (fun a ha=>by obtain rfl:=ach ha;rw[mu,dz,acK];exact sG) (fun ha=>by cases ha)
   obtain⟨G',h1,h2,h3,h4,h5⟩:=s1.CL (r:=r) (g:=⟨v+1,(l++m).length,cap,τ.size⟩) (q':=some b) (ds:=[.row (v+1) τ (l++m)]) oI qF (by rw[R.hv];exact adm v)
    (.inr ⟨b,nv,vt,rfl,hB,eM,fun x nX=>s.inj x r b nX EU,fun o hd=>(s.ec b o hd).2 (acx EU),fun t g0 h0 bo xA=>by obtain⟨b',eT,_,hn,_⟩:=(s.tok t g0 h0).2 bo;rw[xA]at eT;obtain rfl:=ach eT;exact hn (acx EU),fun G' hG' BG pb => .row _ (v+1) τ (l++m) cap (ado v) pb R.z0 (by simpa using iy) (by simpa using nK) (by rw[acr,nf,iz]) (by rw[acy,acW,BG];exact bf.mono _ _ (fun x _ us hx=>al.mono (fun _ _ hd=>hd) eQ τ x us hx) (bf.append bX mw.row)) (fun e=>by have:=R.v0;omega),EG (R.tg b vs vt e hh)⟩)
   refine⟨_,_,ew,_,G',_,h1,eQ,h2,fG G' _ (some b) cap _ h3 h4 (fun b' kz=>by cases kz;rfl) (fun _=>⟨b,rfl⟩),?_⟩;simp only[zk,List.set_set]at hk ⊢;exact hk
 ·
  have CF:∃c',l.length+m.length≤c'∧(acM #[t,t2] ty #[.slice A l.length cap,xv]).run P w =
   .ok (.slice (some ⟨w.heap.size,0,none⟩) (l.length+m.length) c') (w.drew.alloc (.cells (vR.toArray++news.toArray++ady z.cells (c' - (l.length+m.length))) et)):=
   zei ht kZ nY hi nZ (mw.len w) (mw.first w.drew (fun _=>rfl)) (hold.first w.drew (fun _=>rfl)) iy hb CE kB
  obtain⟨c',oC,ew⟩:=CF;generalize Gg:(vR.toArray++news.toArray++ady z.cells (c' - (l.length+m.length)))=cells at ew;have gU:cells.toList=(vR++news)++(ady z.cells (c' - (l.length+m.length))).toList:=by rw[←Gg];simp
  have dy:cells.size=c'*τ.size:=by rw[←Gg];simp only[Array.size_append,adx,size_zeroCells,Ae,dz,hol,sF,←adt];congr 1;omega
  have nC:w.grownBy (w.drew.alloc (.cells cells et)) none:=⟨rfl,rfl,rfl,by simp,fun k hk _=>Below.heap_alloc w.drew _ k hk⟩;have s1:=s.gH nC;have eQ:bg G.D w (w.drew.alloc (.cells cells et)):=bg.fB nC (fun b o x=>(s.ec b o x).1) (fun _ _ _=>by simp);have eM:(w.drew.alloc (.cells cells et)).heap[w.heap.size]? = some (.cells cells et (0,0)):=World.alloc_heap_new w.drew _;have hon:(vR++news).length=(l.length+m.length)*τ.size:=by rw[acy,hol,sF,acU]
  obtain⟨G',h1,h2,h3,h4,h5⟩:=s1.CL (r:=r) (g:=⟨v+1,(l++m).length,c',τ.size⟩) (q':=some w.heap.size) (ds:=[.row (v+1) τ (l++m)]) oI qF (by rw[R.hv];exact adm v)
   (.inr ⟨w.heap.size,cells,et,rfl,s.b0,eM,fun x nX=>by
    have n9:x<h.bx.length:=by rw[s.eb];exact(ab9.1 nX).1
    obtain⟨_,_,kA,_⟩:=s.box x _ _ nX (acp n9);have:=(acu.1 kA).1;omega,fun o hd=>by
    obtain⟨u,hu⟩:=(s.ec _ o hd).1;have:=World.block_lt_of_cell? w _ hu;simp at this,fun t g0 h0 bo xA=>by
    obtain⟨b',eT,_,_,_,_,_,kA,_⟩:=(s.tok t g0 h0).2 bo;rw[xA]at eT;obtain rfl:=ach eT;have:=(acu.1 kA).1;omega,fun G' hG' BG pb => .row _ (v+1) τ (l++m) c' (ado v) pb R.z0 (by simpa using oC) (by simpa using nK) (by rw[acr,dy]) (by rw[acy,gU,acX (by omega),acJ (by omega),BG];exact bf.mono _ _ (fun x _ us hx=>al.mono (fun _ _ hd=>hd) eQ τ x us hx) (bf.append hold.row mw.row)) (fun e=>by have:=R.v0;omega),EG EI⟩)
  exact⟨_,_,ew,_,G',_,h1,eQ,h2,fG G' _ (some w.heap.size) c' _ h3 h4 (fun b' kz=>by cases kz;rfl) (fun _=>⟨_,rfl⟩),hk⟩
theorem zto{X:Type}{B0:Nat}{w0:Wd}{h:H}(s:St B0 w0 G h w){τ:Ty}{xa:AV}{xv:Value}(hx:af w G xv xa){k:List τ.den→Option X}{y:X}(hk:DH τ xa h k=some y){size:Nat}(hs:size=τ.size) :
 ∃m news,uT P w G size τ m xv news∧k m=some y:=by
 unfold DH at hk;split at hk
 ·rename_i m;split at hk
  ·obtain⟨news,h1⟩:=Vn (P:=P) hx;rw[show size=1 from hs];exact⟨m,news,h1,hk⟩
  ·obtain⟨news,h1⟩:=Vn (P:=P) hx;rw[show size=1 from hs];exact⟨m,news,⟨bf.mono (α:=UInt8) m news (fun x _ vs h=>by simpa only[al]using h) h1.row,h1.len,h1.first⟩,hk⟩
  ·cases hk
 ·rename_i τ' m c;split at hk
  ·rename_i m' hm;obtain⟨e,rfl⟩:=Vr hm;subst e;obtain⟨news,h1⟩:=zkm (P:=P) hx hs;exact⟨m,news,h1,hk⟩
  ·cases hk
 ·rename_i r v n τ';split at hk
  ·rename_i m' hm;obtain⟨e,_⟩:=Vr hm;subst e;obtain⟨l,hq,hk,_⟩:=jw hk;obtain⟨q,cap,R⟩:=s.rowAt hq (ET hx);obtain⟨news,h1⟩:=zqe (P:=P) R hx hs;exact⟨l,news,h1,hk⟩
  ·cases hk
 ·cases hk
theorem zjs{X:Type}{cx:Cx X}(hT:fC P cx.tab){a:Act}{e:Env}{N:Nat}(he:eN w G N a.tmps e){B0:Nat}{w0:Wd}{h:H}(s:St B0 w0 G h w){t et:Nat}{ti ei:TI}(ht:cx.tab t=some ti)(wB:ti.d = .slice et)
 (fP:cx.tab et=some ei) {τ:Ty} {len:Nat} {parts:Array (Nat×Operand)} {l:List τ.den} (hb:ja τ e 0 parts.toList=some l) (hl:l.length=len) (dz:ei.size=τ.size) (nK:len*ei.size≤16777216)
 (hz:ei.zero.length=ei.size) (hp:0<ei.size) (EI:oX τ et=true) {k:AV→H→Option X} {y:X} (hk:k (.ms h.bx.length 1 len τ) { h with bx:=h.bx++[[.row 1 τ l]] }=some y) :
 ∃v w',(adB t len (parts.map fun(i,x)=>(i,a.eval x))).run P w = .ok v w'∧Ends B0 w0 G w k y v w':=by
 have gB:=(hT t ti ht).d;rw[wB]at gB;have tJ:=hT et ei fP;obtain⟨z,pd,_⟩:=jJ (w:=w) tJ (fun e=>by rw[e]at hz;simp at hz;omega);obtain⟨zc,nZ,CI⟩:∃zc:Array Value,(len*ei.size=0→zc=#[])∧(¬len*ei.size=0→zc=z.cells):=by
  by_cases h0:len*ei.size=0
  ·exact⟨#[],fun _=>rfl,fun h=>absurd h0 h⟩
  ·exact⟨z.cells,fun h=>absurd h h0,fun _=>rfl⟩
 generalize hA:(Array.range (len*ei.size)).map (fun x=>zc[x % zc.size]!)=arr;have BF:arr.size=len*τ.size:=by rw[←hA];simp[dz]
 obtain⟨fk,us,hf,bX,e2⟩:=Vj (w:=w) (G:=G) he (by omega) parts.toList 0 arr l hb (by rw[acK,hl,BF];exact acQ _);have pf:us.length=len*τ.size:=by rw[←hl];exact bf.length (fun x vs hx=>i_ hx) bX
 have rW:fk.toList=us:=by rw[e2];simp only[Nat.zero_mul,List.take_zero,adD,acK];rw[List.drop_eq_nil_of_le (by simp[BF,hl]),adp]
 have oE:(parts.map fun(i,x)=>(i,a.eval x)).toList=parts.toList.map fun p=>(p.1,a.eval p.2):=by simp
 have ew:(adB t len (parts.map fun(i,x)=>(i,a.eval x))).run P w = .ok (.slice (some ⟨w.heap.size,0,none⟩) len len) (w.alloc (.cells fk et)):=by
  unfold adB;simp only[aci,run_underlying gB,aco,zw tJ];rw[if_neg (by omega)];by_cases h0:len*ei.size=0
  ·rw[if_pos h0];have:=nZ h0;subst this;simp only[aci,aco,acL];rw[hA,oE];rw[dz,hf];simp[newRow]
  ·rw[if_neg h0];have:=CI h0;subst this;simp only[aci,pd,aco,acL];rw[hA,oE];rw[dz,hf];simp[newRow]
 have Vl:l.length≤ai:=by
  have h1:l.length≤len*ei.size:=by rw[hl];exact Nat.le_mul_of_pos_right _ hp
  have h2:(16777216:Nat)≤ai:=by decide
  omega
 have CM:fk.toList.length=len*τ.size:=by rw[rW,pf]
 obtain⟨G',h1,h2,h3,h4,h5,h6⟩:=s.z_ (vs:=fk) (cs:=[.row 1 τ l]) et ⟨1,len,len,τ.size⟩ (fun G' hx hg _ gC => .row _ 1 τ l len adu (by rw[hg,hl]) (by omega) (by omega) Vl CM (by rw[hl,acJ (by omega),rW];exact bf.mono _ _ (fun x _ us n9=>al.mono hx.D gC τ x us n9) bX) (fun _=>hl.symm)) (EG EI);refine⟨_,_,ew,_,G',_,h1,h2,h3,.ms _ _ _ _ _ adu ⟨_,_,rfl,fun _=>⟨_,_,rfl⟩⟩ ⟨_,h4,by rw[h5];exact acQ _,fun _=>by rw[h5];exact⟨rfl,rfl,_,rfl,fun b hb=>by cases hb;rfl⟩⟩,hk⟩
end
end Go.AM
namespace Go.AM
open Go.MapKept Go.RowKit
section
variable {P:Program} {w:World} {G:GS}
abbrev mpV(p:List UInt8×Int):Value×Value:=(Value.string ⟨p.1.toArray⟩,Value.int .i64 p.2)
theorem zqf(s:ByteArray){l:List UInt8}(h:s.data.toList=l):s=⟨l.toArray⟩:=by obtain⟨d⟩:=s;subst h;simp
theorem Vt(s:List UInt8):∀(l:List (List UInt8×Int))(es:List MapEntry)(j:Nat),es.map (fun x=>(x.key,x.val))=l.map mpV →
 (adj .string (.string ⟨s.toArray⟩) es j=some none∧jb l s=none∧∀n,gZ l s n=l++[(s,n)]) ∨
 (∃(i:Nat)(e:MapEntry)(v:Int),adj .string (.string ⟨s.toArray⟩) es j=some (some (j+i,.int .i64 v))∧es[i]? = some e∧e.key = .string ⟨s.toArray⟩∧jb l s=some v ∧
  ∀(n:Int)(f:MapEntry→MapEntry),(f e).key = .string ⟨s.toArray⟩→(f e).val = .int .i64 n→(es.set i (f e)).map (fun x=>(x.key,x.val))=(gZ l s n).map mpV)
 |[],es,j,h=>by
  have:es=[]:=by simpa using h
  subst this;exact .inl ⟨rfl,rfl,fun n=>rfl⟩
 | (k,v)::l,es,j,h=>by
  cases es with
  |nil=>simp at h
  | cons e es =>
   simp only[adk,acE,adJ]at h;obtain⟨⟨hk,hv⟩,h⟩:=h;obtain⟨r,hr,Gw⟩:=sameNow_of_keys (d:=.string) (a:=.string ⟨s.toArray⟩) (b:=e.key) (by simp[IsKey]) (by rw[hk];simp[IsKey]);have ph:(k==s)=r:=by
    rw[hk]at Gw;cases r with
    |true =>have:=Gw.1 rfl;simp at this;simp[this]
    | false =>
     cases hb:k==s with
     |false=>rfl
     |true =>
      have e1:k=s:=by simpa using hb
      have:=Gw.2 (by rw[e1]);cases this
   cases r with
   |true =>
    have e1:k=s:=by simpa using ph
    refine .inr ⟨0,e,v,by simp[adj,hr,hv],rfl,by rw[hk,e1],by simp[jb,ph],fun n f h1 h2 => ?_⟩;subst e1;simp only[List.set_cons_zero,adk,h1,h2,gZ,beq_self_eq_true,cond_true,h]
   |false =>
    rcases Vt s l es (j+1) h with⟨h1,h2,h3⟩ |⟨i,e',v',h1,h2,h3,h4,h5⟩
    ·exact .inl ⟨by simp[adj,hr,h1],by simp[jb,ph,h2],fun n=>by simp[gZ,ph,h3]⟩
    ·refine .inr ⟨i+1,e',v',by simp[adj,hr,h1];omega,by simpa using h2,h3,by simp[jb,ph,h4],fun n f f1 f2 => ?_⟩;simp only[List.set_cons_succ,adk,hk,hv,gZ,ph,cond_false,h5 n f f1 f2]
theorem zml{tab:Nat→Option TI}{t:Nat}(h:Bx tab t=true):∃k e ti tk te,tab t=some ti∧ti.d = .map k e∧tab k=some tk∧tk.d = .str∧tab e=some te∧te.zero≠[]:=by
 unfold Bx at h;split at h
 ·rename_i k e a b c d f g ht;split at h
  ·rename_i h1 h2;exact⟨k,e,_,_,_,ht,rfl,h1,rfl,h2,by simp⟩
  ·cases h
 ·cases h
theorem zju{mty kt et:TypeId}(hm:P.underlying mty=some (.map kt et))(hd:P.underlying kt=some .string){b:Nat}{es:Array MapEntry}{c:Nat}(hb:w.heap[b]? = some (.map es c)){l:List (List UInt8×Int)}(hl:o_ es l)(s:List UInt8)(n:Int) :
 ∃yH c',(adE mty (.map (some b)) (.string ⟨s.toArray⟩) (.int .i64 n)).run P w = .ok () (w.putObj b (.map yH c'))∧o_ yH (gZ l s n):=by
 have hk:IsKey .string (.string ⟨s.toArray⟩):=by simp[IsKey]
 rcases Vt s l es.toList 0 hl with⟨h1,h2,h3⟩ |⟨i,e,v,h1,h2,h3,h4,h5⟩
 ·refine⟨es.push { key:=.string ⟨s.toArray⟩,val:=.int .i64 n,born:=c },c+1,?_,?_⟩
  ·simp[adE,run_underlying hm,acO hb,run_checkKey hd hk,run_findKey hd h1,run_setObj_map _ hb,adH,World.putObj]
  ·unfold o_ at hl ⊢;rw[h3 n,Array.toList_push,adq,adq,hl];rfl
 ·have hj:es[i]? = some e:=by simpa using h2
  have bo:i<es.size:=(acu.1 hj).1;refine⟨es.modify i fun e=>{ e with key:=.string ⟨s.toArray⟩,val:=.int .i64 n },c,?_,?_⟩
  ·simp[adE,run_underlying hm,acO hb,run_checkKey hd hk,run_findKey hd h1,hj,h3,run_keyThatStays hk,run_setObj_map _ hb,adH,World.putObj]
  ·unfold o_;have:=h5 n (fun e=>{ e with key:=.string ⟨s.toArray⟩,val:=.int .i64 n }) rfl rfl;rw[←this];congr 1;rw[Array.toList_modify];have he:es.toList[i]? = some e:=h2;refine adf fun j => ?_;rw[List.getElem?_modify,acn];by_cases BH:i=j
   ·subst BH;have:=(ab9.1 he).1;rw[if_pos rfl,he,if_pos this];simp
   ·simp[BH]
theorem zo9{t k e:TypeId}(ht:P.underlying t=some (.map k e))(hk:P.underlying k=some .string){z:Value}(hz:(zeroValue e).run P w = .ok z w){b:Nat}{es:Array MapEntry}{c:Nat}(hb:w.heap[b]? = some (.map es c)){l:List (List UInt8×Int)}(hl:o_ es l)(s:List UInt8) :
 ∃v,(Instr.lookup t (.map (some b)) (.string ⟨s.toArray⟩) true).run P w = .ok v w∧af w G v (match jb l s with|some v => .cr [.int .i64 v,.bool true] |none => .cr [.any,.bool false]):=by
 have ac1:IsKey .string (.string ⟨s.toArray⟩):=by simp[IsKey]
 have hc:∀b' w',(Instr.checkKey b' 10000 k (.string ⟨s.toArray⟩)).run P w' = .ok () w':=fun b' w'=>run_checkKey hk ac1 b' 9999
 have cr:∀(x:Value)(y:Bool)(ax:AV),af w G x ax→af w G (.tuple #[x,.bool y]) (.cr [ax,.bool y]):=fun x y ax hx=>by
  refine .cr _ _ rfl (fun i v c hv hc => ?_)
  match i,hv,hc with
  |0,hv,hc=>simp at hv hc;subst hv hc;exact hx
  |1,hv,hc=>simp at hv hc;subst hv hc;exact .bool _
  |i+2,hv,hc=>simp at hc
 rcases Vt s l es.toList 0 hl with⟨h1,h2,-⟩ |⟨i,e',v,h1,h2,h3,h4,-⟩
 ·refine⟨.tuple #[z,.bool false],?_,by rw[h2];exact cr _ _ _ (.any _)⟩;simp only[Instr.lookup,aci,run_underlying ht,aco,acO hb,hc,run_findKey hk h1,acL,if_true,hz]
 ·refine⟨.tuple #[.int .i64 v,.bool true],?_,by rw[h4];exact cr _ _ _ (.int _ _ (fun e=>by cases e))⟩;simp only[Instr.lookup,aci,run_underlying ht,aco,acO hb,hc,run_findKey hk h1,acL,if_true]
theorem St.LM{B0:Nat}{w0:Wd}{h:H}(s:St B0 w0 G h w){q b:Nat}{es yH:Array MapEntry}{c c':Nat}{l:List (List UInt8×Int)}(hb:G.bx[q]? = some (some b))(hh:w.heap[b]? = some (.map es c))(hB:B0≤b)(hv:(G.bv q).v=0)(hl:o_ yH l) :
 bg G.D w (w.putObj b (.map yH c'))∧St B0 w0 G { h with bx:=dF h.bx q [.mp l] } (w.putObj b (.map yH c')):=by
 have fp:∀(a:Addr),(∃u,w.cell? a=some u)→(w.putObj b (.map yH c')).cell? a=w.cell? a:=fun a ⟨u,hu⟩=>by
  by_cases e:a.block=b
  ·exfalso;unfold World.cell? at hu;rw[e,hh]at hu;simp at hu
  ·exact World.cell?_of_block (w:=w) (acR e)
 have hk:bg G.D w (w.putObj b (.map yH c')):=fun x i hx=>fp _ (s.ec x i hx).1;have bo:b<w.heap.size:=(acu.1 hh).1;have nJ:∀x o,w.heap[x]? = some o→(∀es c,o≠Obj.map es c)→(w.putObj b (.map yH c')).heap[x]? = some o:=fun x o hx c_=>by rw[acR (fun e=>by rw[e,hh]at hx;exact c_ _ _ (ach hx).symm)];exact hx
 have hx:Ext G.base G G:=Ext.refl (cF.le_refl _);refine⟨hk,?_⟩;exact
 { below := s.below.trans ⟨rfl,rfl,rfl,by simp,fun k hk=>acR (by omega)⟩
   b0:=by simpa using s.b0
   eb:=by simp[zk,s.eb]
   box := fun r x cs e1 e2=>by
    simp only[zk,acn]at e2;by_cases nA:q=r
    ·subst nA;rw[if_pos rfl]at e2;split at e2
     ·obtain rfl:=ach e2;rw[hb]at e1;obtain rfl:=ach (ach e1);exact⟨hB,_,World.putObj_heap_same bo,.mp _ _ _ hv hl⟩
     ·cases e2
    ·rw[if_neg nA]at e2;obtain⟨wy,ob,h2,hr⟩:=s.box r x cs e1 e2;have c_:x≠b:=fun e=>nA (s.inj q r b hb (by rw[←e];exact e1));exact⟨wy,ob,(acR c_).trans h2,hr.eJ hx hk rfl⟩
   fl:=fun r cs e1 e2=>by
    simp only[zk,acn]at e2;by_cases nA:q=r
    ·subst nA;rw[hb]at e1;cases e1
    ·rw[if_neg nA]at e2;exact s.fl r cs e1 e2
   inj:=s.inj
   ec:=fun x i CN=>⟨by obtain⟨u,hu⟩:=(s.ec x i CN).1;exact⟨u,(hk x i CN).trans hu⟩,(s.ec x i CN).2⟩
   fo:=s.fo
   fO:=s.fO
   tok:=fun t g ht=>by obtain⟨e1,e2⟩:=s.tok t g ht;refine⟨e1,fun hl => ?_⟩;obtain⟨q,hA,hB,hn,cs,et,fr,kA,hc,hi⟩:=e2 hl;have hq:=nJ _ _ kA (by simp);refine⟨q,hA,hB,hn,cs,et,fr,hq,hc,fun i i1 i2=>⟨(hi i i1 i2).1,?_⟩⟩;rw[World.frozen?_of_block (w:=w) (by rw[kA];exact hq)];exact(hi i i1 i2).2
   gA:=s.gA
   fU:=s.fU
   loop:=fun j p st h1 h2=>by obtain⟨k1,rec,k2,k3⟩:=s.loop j p st h1 h2;exact⟨k1,rec,nJ _ _ k2 (by simp),k3⟩
   ie:=s.ie
   gu:=fun d hd=>⟨(s.gu d hd).1,nJ _ _ (s.gu d hd).2 (by simp)⟩
   ig:=s.ig }
end
end Go.AM
namespace Go.AM
open Go.RowKit
section
variable {P:Program} {w:World} {G:GS}
theorem ztp{X:Type}{c:Bool}{a b:Option X}{r:X}(h:(bif c then a else b)=some r):a=some r∨b=some r:=by
 cases c
 ·exact .inr h
 ·exact .inl h
theorem zwt{x:Value}(h:af w G x .fe):x = .slice none 0 0:=by cases h;rfl
theorem zhc{X:Type}{cx:Cx X}{B0:Nat}{w0:Wd}{h:H}(st:St B0 w0 G h w){ty:Nat}{x:Value}(hx:af w G x .fe){k:AV→H→Option X}{r:X}(hk:tx cx ty h k=some r) :
 Good P B0 w0 G w k r ((Pure.pure (Next.value x):Sem Next).run P w):=by
 unfold tx at hk;split at hk
 ·rename_i τ hτ;obtain⟨hz,hk⟩:=zf hk;rw[eV]at hz;obtain⟨G',h1,h2,h3⟩:=st.BJ hz;rw[←zwt hx]at h3;exact⟨x,w,.inl rfl,_,G',_,h1,bg.refl _ _,h2,h3,hk⟩
 ·cases hk
theorem ztq{X:Type}{B0:Nat}{w0:Wd}{h:H}(s:St B0 w0 G h w){t E:Nat}{ti:TI}(gB:nc P t ti)(nZ:ti.zero=[.fX,.sl .u8 [] .full]){k:AV→H→Option X}{r:X}
 (hk:k (.ref (h.bx.length+1) 0) { h with bx:=(h.bx++[[.row 1 (.iX E) []]])++[[.ea (h.bx.length+1) t,.ms h.bx.length 1 0 (.iX E)]] }=some r):∃v w',(Instr.alloc t true (.tuple #[])).run P w = .ok v w'∧Ends B0 w0 G w k r v w':=by
 obtain⟨z,hz,hR⟩:=jJ (w:=w) gB (fun e=>by rw[e]at nZ;cases nZ);obtain⟨G1,x1,s1,m1⟩:=s.BJ (τ:=.iX E) (show 0<1 from adu);have qf:=hR w G1;rw[nZ]at qf;obtain⟨v1,v2,hzc,r1,r2⟩:=qf.two;have yF:v1 = .pointer none:=by cases r1;rfl
 obtain⟨A,cap,EV,sE,_,j7⟩:=CH r2;obtain⟨A',j7⟩:=j7;rw[EV]at j7;simp only[List.length_nil,ade,true_and]at j7;obtain⟨_,rfl⟩:=j7;have EL:af w G1 v2 (.ms h.bx.length 1 0 (.iX E)):=by
  rw[EV];cases m1 with
  |ms _ _ _ _ _ h0 hs h' =>obtain⟨q,hb,hle,oH⟩:=h';refine .ms _ _ _ _ _ h0 ⟨A,0,rfl,fun h=>absurd h (by omega)⟩ ⟨q,hb,hle,fun e => ?_⟩;obtain⟨e1,e2,A2,e3,e4⟩:=oH e;simp only[ade,true_and]at e3;refine⟨e1,e2,A,by rw[←e3.2];rfl,fun b kz => ?_⟩;have:=e4 b kz;rw[←e3.1]at this;cases this
 obtain⟨G2,x2,k2,s2,b2,v2',_⟩:=s1.z_ (vs:=z.cells) (cs:=[.ea (h.bx.length+1) t,.ms h.bx.length 1 0 (.iX E)]) t ⟨0,0,0,0⟩ (fun G' hx hg hb ik=>by
  refine .box _ _ rfl (by rw[hg]) ?_;rw[hzc];have e:(h.bx++[[AV.row 1 (.iX E) []]]).length=h.bx.length+1:=by simp
  refine .cons (.ea _ _ w.heap.size _ ?_ ?_ (.inl yF)) (.cons (EL.mono hx ik) .nil)
  ·rw[←e];exact hb
  ·rw[←e,hg]) (fun T hT=>by simp only[iQ,acj]at hT;exact hT)
 have e:(h.bx++[[AV.row 1 (.iX E) []]]).length=h.bx.length+1:=by simp
 refine⟨.pointer (some ⟨w.heap.size,0,none⟩),w.alloc (.cells z.cells t),?_,.ref (h.bx.length+1) 0,G2,_,x1.trans (x2.mono (jG x1)),fun b o hd=>k2 b o (x1.D b o hd),s2,.ref _ _ _ (by rw[←e];exact b2) (by rw[←e,v2']),hk⟩;simp[Instr.alloc,hz,newVar,newRow]
theorem zwu{v:Value}{τ:Ty}{l:List τ.den}(h:af w G v (.sl τ l .eY))(hc:qA G v l.length τ.size .full):af w G v (.sl τ l .full):=by
 cases h with
 |sl _ _ _ _ hR _=>exact .sl _ _ _ _ hR hc
theorem ztr{X:Type}{B0:Nat}{w0:Wd}{h:H}(st:St B0 w0 G h w){s et:TypeId}(hs:P.underlying s=some (.slice et))(he:P.underlying et=some (.int .u8)){x:Value}{r v n:Nat}{τ:Ty}(hx:af w G x (.ms r v n τ))(hn:0<n)
 {k:AV→H→Option X} {res:X} (hk:(ow h r v τ fun l=>k (.sl τ l (bif ac9 v 1 then .full else .eY)) { h with bx:=dF h.bx r [.row (v+1) τ []] })=some res):∃w',(convert s s x).run P w = .ok x w'∧Ends B0 w0 G w k res x w':=by
 obtain⟨l,hq,kg,_⟩:=jw hk;clear hk;obtain⟨q,cap,R⟩:=st.rowAt hq (ET hx);obtain⟨G',h1,h2,h3,h4,h5⟩:=st.freeze hq hx;obtain⟨rfl,A,rfl,hA⟩:=R.ms hx;replace h3:af w G' (.slice A l.length cap) (.sl τ l (bif ac9 v 1 then .full else .eY)):=by
  cases yF:ac9 v 1 with
  |false=>exact h3
  |true =>rw[cond_true];exact zwu h3 ⟨A,by rw[R.v1 (b_.1 yF)]⟩
 rcases R.wh with⟨_,e2,_⟩ |⟨b,vs,t,e,hB,hh,dz,hl⟩
 ·subst e2;simp at hn
 obtain rfl:=hA b e;have LC:b<w.heap.size:=(acu.1 hh).1;have BK:w.shape? b=some (t,vs.size):=by unfold World.shape?;rw[hh]
 have xB:(w.freeze ⟨b,vs.size,none⟩ 1).heap[b]? = some (.cells vs t (vs.size,vs.size+1)):=by unfold World.freeze;rw[if_neg (by decide)];simp[Array.getElem?_modify,hh]
 have hot:∀j,j≠b→(w.freeze ⟨b,vs.size,none⟩ 1).heap[j]? = w.heap[j]?:=fun j hj=>by unfold World.freeze;rw[if_neg (by decide)];simp[Array.getElem?_modify,ac8 hj]
 have nC:w.grownBy (w.freeze ⟨b,vs.size,none⟩ 1) (some b):=by
  refine⟨?_,?_,?_,?_,fun j _ hj=>hot j (fun e=>hj (by rw[e]))⟩
  all_goals (unfold World.freeze;rw[if_neg (by decide)];try simp)
 refine⟨w.freeze ⟨b,vs.size,none⟩ 1,?_,?_⟩
 ·simp[convert,run_underlying hs,run_underlying he,markStringish,BK]
 ·obtain⟨gC,gQ⟩:=h2.other nC hB (fun o _=>by rw[zy xB,zy hh]) ⟨_,_,_,hh⟩ (fun hm=>by
   rw[h4]at hm;obtain⟨y,hy⟩:=acH hm;rw[acn]at hy;have oI:r<G.bx.length:=(ab9.1 R.hb).1;split at hy
   ·simp[oI]at hy
   ·rename_i c_;exact c_ (st.inj r y b (by rw[R.hb,e]) hy)) (fun t0 g h0 bo xA=>by
   rw[h5]at h0;obtain⟨b',eT,_,xu,_⟩:=(st.tok t0 g h0).2 bo;rw[xA]at eT;obtain rfl:=ach eT;exact xu (by rw[←e];exact acx R.hb))
  exact⟨_,G',_,h1,fun b o hd=>gC b o (h1.D b o hd),gQ,h3.mono (Ext.refl (cF.le_refl _)) gC,kg⟩
theorem zwv {X:Type} {cx:Cx X} (hT:fC P cx.tab) {B0:Nat} {w0:Wd} {h:H} (st:St B0 w0 G h w) {a:Act} {e:Env} {N:Nat} (he:eN w G N a.tmps e) (o:Oper) (bX:gG cx o e=true)
 {k:AV→H→Option X} {r:X} (hk:nV cx o e h k=some r):Good P B0 w0 G w k r ((execOp a.eval o).run P w):=by
 unfold nV at hk;unfold gG at bX;unfold execOp;split at hk
 ·rename_i t ho;simp only[ho]at bX ⊢;obtain⟨_,hk⟩:=zf hk;obtain⟨G',g1,g2,g3,g4,g5,_⟩:=st.DL (ob:=.map #[] 0) (cs:=[.mp []]) ⟨0,0,0,0⟩ (fun G' hx hg hb ik => .mp #[] 0 [] (by rw[hg]) rfl);exact Good.v' (v:=.map (some w.heap.size)) (w':=w.alloc (.map #[] 0)) (by simp[Instr.makeMap,adH]) ⟨_,G',_,g1,g2,g3,.gq _ _ g4 (by rw[g5]),hk⟩
 ·rename_i t m x ho;simp only[ho]at bX ⊢;obtain⟨hm,hk⟩:=zf hk;obtain⟨kt,et,ti,tk,te,q1,q2,q3,q4,q5,q6⟩:=zml hm;split at hk
  ·rename_i rr s wA CP;split at hk
   ·rename_i l jf;rw[zo]at jf;have tI:=he.ev m;have eW:=he.ev x;rw[wA]at tI;rw[CP]at eW;obtain⟨sb,l7,Vu,_⟩:=zq eW;rw[l7,zqf sb Vu];generalize a.eval m=mv at tI;cases tI with
    | gq _ b hb hv =>
     obtain⟨_,ob,hh,hr⟩:=st.box _ _ _ hb jf;cases hr with
     |cells vs t0 _ h _=>exact absurd h (by intro hB;cases hB with |box _ bX _ _=>simp[isRow]at bX)
     |mp es c _ _ hl =>
      obtain⟨z,hz,_⟩:=jJ (w:=w) (hT _ _ q5) q6;have d1:=(hT _ _ q1).d;have d2:=(hT _ _ q3).d;rw[q2]at d1;rw[q4]at d2;obtain⟨v,g1,g2⟩:=zo9 (P:=P) (G:=G) d1 d2 hz hh hl s;unfold js at hk;cases hg:jb l s with
      |none =>rw[hg]at hk g2;exact Good.v st g1 g2 hk
      |some n =>rw[hg]at hk g2;exact Good.v st g1 g2 hk
   ·cases hk
  ·cases hk
 ·rename_i t m x y ho;simp only[ho]at bX ⊢;obtain⟨hm,hk⟩:=zf hk;obtain⟨kt,et,ti,tk,te,q1,q2,q3,q4,q5,q6⟩:=zml hm;split at hk
  ·rename_i rr s n wA CP Vv;split at hk
   ·rename_i l jf;rw[zo]at jf;have tI:=he.ev m;have eW:=he.ev x;have hyy:=he.ev y;rw[wA]at tI;rw[CP]at eW;rw[Vv]at hyy;obtain⟨sb,l7,Vu,_⟩:=zq eW;obtain⟨Gx,_⟩:=zj hyy;rw[l7,Gx,zqf sb Vu];generalize a.eval m=mv at tI;cases tI with
    |gq _ b hb hv =>
     obtain⟨hB,ob,hh,hr⟩:=st.box _ _ _ hb jf;cases hr with
     |cells vs t0 _ h _=>exact absurd h (by intro hB;cases hB with |box _ bX _ _=>simp[isRow]at bX)
     |mp es c _ qF hl =>have d1:=(hT _ _ q1).d;have d2:=(hT _ _ q3).d;rw[q2]at d1;rw[q4]at d2;obtain⟨yH,c',g1,g2⟩:=zju (P:=P) d1 d2 hh hl s n;obtain⟨k1,k2⟩:=st.LM (c':=c') hb hh hB qF g2;exact⟨undef,_,.inr ⟨by simp[aci,g1],rfl⟩,.cr [],G,_,Ext.refl (cF.le_refl _),k1,k2,sD _ _,hk⟩
   ·cases hk
  ·cases hk
 ·rename_i x ho;simp only[ho]at bX ⊢;have hx:=he.ev x;split at bX
  ·rename_i hn;rw[hn]at hx;exact zhc st hx hk
  ·cases bX
 ·rename_i x ho;simp only[ho]at bX ⊢;have hx:=he.ev x;split at bX
  ·rename_i hn;rw[hn]at hx;exact zhc st hx hk
  ·cases bX
 ·rename_i t len parts ho;simp only[ho];split at hk
  ·rename_i et _ _ _ _ _ _ ht;split at hk
   ·rename_i ti fP;split at hk
    ·rename_i τ hτ;split at hk
     ·rename_i l hl;obtain⟨hc,hk⟩:=zf hk;simp only[acf,b_,eV,jZ]at hc;obtain⟨⟨⟨⟨⟨c1,c2⟩,c4⟩,c5⟩,c6⟩,c7⟩:=hc;obtain⟨v,w',h1,h2⟩:=zjs hT he st ht rfl fP hl c1 c2 c4 c5 c6 c7 hk;exact Good.v' h1 h2
     ·cases hk
    ·cases hk
   ·cases hk
  ·cases hk
 ·rename_i t x ho;simp only[ho];have hx:=he.ev x;split at hk
  ·rename_i ti ht;split at hk
   ·rename_i rr v i off τ eW;rw[eW]at hx;obtain⟨l,hq,hk,_⟩:=jw hk;obtain⟨el,lO,hk⟩:=acS.1 hk;split at hk
    ·rename_i cs dy;split at hk
     ·rename_i av Gy;obtain⟨u,h1,h2⟩:=zws st (hT t ti ht) hx hq lO dy Gy;exact Good.v st h1 h2 hk
     ·cases hk
    ·cases hk
   ·cases hk
  ·cases hk
 ·rename_i t x y ho;simp only[ho];have hx:=he.ev x;split at hk
  ·rename_i ti ht;have hy:=iZ (he.ev y) ti.ty;split at hk
   ·rename_i rr v i off τ eW;rw[eW]at hx;obtain⟨hc,hk⟩:=zf hk;simp only[acf,b_,eV]at hc;obtain⟨⟨c1,c2⟩,c3⟩:=hc;obtain⟨l,hq,hk,_⟩:=jw hk;obtain⟨el,lO,hk⟩:=acS.1 hk;split at hk
    ·rename_i ds oB;split at hk
     ·rename_i z hz;obtain⟨w',h1,h2,h3⟩:=ztn st (hT t ti ht) hx hq hy c1 c2 c3 lO oB hz;exact⟨undef,w',.inr ⟨by simp[aci,h1],rfl⟩,.cr [],G,_,Ext.refl (cF.le_refl _),h2,h3,sD _ _,hk⟩
     ·cases hk
    ·cases hk
   ·have hk:=ztp hk;rcases hk with hk|hk
    ·split at hk
     ·rename_i Gt hs;obtain⟨w',g1,g2,g3⟩:=U5 st (hT t ti ht) hx hy hs;exact⟨undef,w',.inr ⟨by simp[aci,g1],rfl⟩,.cr [],G,Gt,Ext.refl (cF.le_refl _),g2,g3,sD _ _,hk⟩
     ·cases hk
    obtain⟨a',G',h',h1,h2,h3,hk⟩:=LJ st hy hk;split at hk
    ·rename_i Gt hs;obtain⟨w',g1,g2,g3⟩:=U5 h2 (hT t ti ht) (hx.mono h1 (bg.refl _ _)) h3 hs;exact⟨undef,w',.inr ⟨by simp[aci,g1],rfl⟩,.cr [],G',Gt,h1,fun b o hd=>g2 b o (h1.D b o hd),g3,sD _ _,hk⟩
    ·cases hk
  ·cases hk
 ·rename_i t x f ho;simp only[ho];have hx:=he.ev x;split at hk
  ·rename_i fs _ _ _ _ _ _ ht;split at hk
   ·rename_i off ft hn;split at hk
    ·rename_i fi oG;obtain⟨hc,hk⟩:=zf hk;simp only[eV]at hc;obtain⟨fields,fd,hu,Gq,Gr,Gs⟩:=Vq hT ht rfl hn oG;have dz:(sizeOf fd.type).run P w = .ok fi.size w:=by rw[Gs];exact zw (hT ft fi oG)
     have ew:∀(b oo:Nat),(adv t (.pointer (some ⟨b,oo,none⟩)) f).run P w = .ok (.pointer (some ⟨b,oo+off,none⟩)) w:=by
      intro b oo;have c_:fi.size≠0:=by omega
      simp[adv,aci,run_underlying hu,Gq,ac5,fieldPlace,dz,c_,mu,Gr]
     split at hk
     ·rename_i rr v i oo τ eW;rw[eW]at hx;generalize a.eval x=xv at hx;cases hx with
      |ep _ _ _ _ _ _ h0 hs h =>obtain⟨b,ob,rfl⟩:=hs;refine Good.v st (ew b ob) (.ep _ _ _ _ _ _ h0 ⟨b,_,rfl⟩ ?_) hk;obtain⟨q,hb,hle,oH⟩:=h;refine⟨q,hb,hle,fun ee => ?_⟩;obtain⟨e1,e2,e3,e4⟩:=oH ee;refine⟨e1,e2,e3,fun b' kz => ?_⟩;have:=e4 b' kz;simp only[Value.pointer.injEq,acj,Addr.mk.injEq,and_true]at this ⊢;obtain⟨rfl,rfl⟩:=this;exact⟨rfl,by omega⟩
     ·cases hk
    ·cases hk
   ·cases hk
  ·cases hk
 ·rename_i t x i ho;simp only[ho];have hx:=he.ev x;have hi:=he.ev i;split at hk
  ·rename_i et _ _ _ _ _ _ ht;split at hk
   ·rename_i ti fP;split at hk
    ·rename_i rr v n τ qk j eW je;obtain⟨hc,hk⟩:=zf hk;simp only[acf,b_,decide_eq_true_eq]at hc;obtain⟨c1,c2,c3⟩:=hc;rw[eW]at hx;rw[je]at hi;obtain⟨xz,_⟩:=zj hi;rw[xz];obtain⟨m,rfl⟩:=Int.eq_ofNat_of_zero_le c2;have hm:m<n:=by omega
     have hu:=(hT t _ ht).d;have dz:=zw (w:=w) (hT et ti fP);generalize a.eval x=xv at hx;cases hx with
     |ms _ _ _ _ _ h0 hs h =>
      obtain⟨A,cc,rfl,hA⟩:=hs;obtain⟨b,oo,rfl⟩:=hA (by omega);have ew:(ac2 t (.slice (some ⟨b,oo,none⟩) n cc) (.int qk (m:Int))).run P w = .ok (.pointer (some ⟨b,oo+m*ti.size,none⟩)) w:=by simp[ac2,asIntOf,aci,run_underlying hu,dz,mu,hm]
      refine Good.v st ew (.ep _ _ _ _ _ _ h0 ⟨b,_,rfl⟩ ?_) hk;obtain⟨q,hb,hle,oH⟩:=h;refine⟨q,hb,hle,fun ee => ?_⟩;obtain⟨e1,e2,A',e3,e4⟩:=oH ee;refine⟨e1,by omega,by omega,fun b' kz => ?_⟩;have e5:=e4 b' kz;simp only[ade]at e3;obtain⟨rfl,_⟩:=e3;simp only[acj,Addr.mk.injEq,and_true]at e5;obtain⟨rfl,rfl⟩:=e5;simp[c1]
    ·cases hk
   ·cases hk
  ·cases hk
 ·rename_i t x lo hi mx ho;simp only[ho];split at hk
  ·rename_i ti ht;obtain⟨a',G',h',h1,h2,h3,hk⟩:=LJ st (he.ev x) hk;obtain⟨v,av,g1,g2,g3⟩:=zfx hT ht (he.mono h1 (bg.refl _ _)) h3 hk;exact⟨v,w,.inl (by simp[aci,g1]),av,G',h',h1,bg.refl _ _,h2,g2,g3⟩
  ·cases hk
 ·rename_i s d x ho;simp only[ho];obtain⟨CQ,l9⟩:=zf hk;clear hk;have CQ:=b_.1 CQ;subst CQ;have hx:=he.ev x;split at l9
  ·rename_i hs;split at l9
   ·rename_i sK;split at l9
    ·rename_i rr v n τ eW;rw[eW]at hx;obtain⟨hn,kg⟩:=zf l9;obtain⟨w',g1,g2⟩:=ztr st (hT _ _ hs).d (hT _ _ sK).d hx (eV.1 hn) kg;exact Good.v' g1 g2
    ·cases l9
   ·cases l9
  ·cases l9
 ·rename_i c ho;simp only[ho];split at hk
  ·rename_i hb;simp only[resolve,hb,aci,acL,aco,invoke];split at hk
   ·rename_i t x rK has;split at hk
    ·rename_i et _ _ _ _ _ _ ht;split at hk
     ·rename_i rr v n τ eW;have hd:=(hT t _ ht).d;have hx:=he.ev x;rw[eW]at hx;have gv:c.args.map a.eval=#[a.eval x]:=acG (by simp[has]);have xw:c.argTypes[0]? = some t:=by rw[←acq,rK];rfl
      rw[gv];generalize a.eval x=xv at hx;cases hx with
      |ms _ _ _ _ _ h0 hs h =>obtain⟨A,cc,rfl,hA⟩:=hs;refine Good.v st (v:=goInt n) ?_ (.int _ _ (by intro e;cases e)) hk;simp[ac3,xw,aci,run_underlying hd]
     ·cases hk
    ·cases hk
   ·cases hk
  ·rename_i hb;simp only[resolve,hb,aci,acL,aco,invoke];split at hk
   ·rename_i t t2 s x rK has;split at hk
    ·rename_i et _ _ _ _ _ _ t2i ht kZ;split at hk
     ·rename_i ei fP;split at hk
      ·rename_i rr v n τ hss;have hs:=he.ev s;rw[hss]at hs;obtain⟨tA,hk⟩:=zf hk;simp only[acf]at tA;obtain⟨d2,y8,nY⟩:∃d2,P.underlying t2=some d2∧∀k,d2 ≠ .int k:=by
        have y8:=(hT t2 _ kZ).d;have h0:=tA.1;unfold NB at h0;split at h0
        ·cases h0
        ·rename_i e2 _;rw[e2]at y8;exact⟨_,y8,fun q=>by simp⟩
        ·rename_i e2 _;rw[e2]at y8;exact⟨_,y8,fun q=>by simp⟩
        ·cases h0
       have hx:=iZ (he.ev x) (ei.ty.map .sl);have tJ:=hT et ei fP;obtain⟨i,hi,his,EM,LH⟩:=tJ.info;have wB:=(hT t _ ht).d;have gv:c.args.map a.eval=#[a.eval s,a.eval x]:=acG (by simp[has]);have ac4:c.argTypes=#[t,t2]:=acG (by simp[rK]);by_cases dz:ei.size=τ.size
       ·obtain⟨m,news,mw,hk⟩:=zto (P:=P) st hx hk (size:=i.size) (by omega);obtain⟨l,hq,hk,_⟩:=jw hk;obtain⟨hc,hk⟩:=zf hk;simp only[acf,b_,eV]at hc;obtain⟨⟨c1,c2⟩,c3⟩:=hc;obtain⟨hc,hk⟩:=zf hk;simp only[acf,decide_eq_true_eq]at hc;obtain⟨b1,b2,b3⟩:=hc;obtain⟨z,nZ,pd⟩:=LH (fun e=>by rw[e]at c2;simp at c2;omega);have Ae:z.cells.size=i.size:=by have:=(pd w G).1;simp at this;omega
        obtain⟨val,w',g1,g2⟩:=zro (ty:=o.type) st wB y8 nY hi nZ Ae (by omega) tA.2 hs hq mw (by rw[EM];exact b1) (by rw[EM];exact b2) (by rw[EM];exact b3) hk;rw[gv,ac4];exact Good.v' g1 g2
       ·exfalso
        have BL:∀y:Option X,(bif ac9 ei.size τ.size&&ac9 ei.zero.length ei.size&&Nat.blt 0 ei.size then y else none)=none:=fun y=>by
         have:ac9 ei.size τ.size=false:=by
          cases hh:ac9 ei.size τ.size
          ·rfl
          ·exact absurd (b_.1 hh) dz
         rw[this];rfl
        unfold DH at hk;split at hk
        ·split at hk
         ·obtain⟨l,hq,hk,_⟩:=jw hk;rw[BL]at hk;cases hk
         ·obtain⟨l,hq,hk,_⟩:=jw hk;rw[BL]at hk;cases hk
         ·cases hk
        ·split at hk
         ·obtain⟨l,hq,hk,_⟩:=jw hk;rw[BL]at hk;cases hk
         ·cases hk
        ·split at hk
         ·obtain⟨l,hq,hk,_⟩:=jw hk;obtain⟨l,hq,hk,_⟩:=jw hk;rw[BL]at hk;cases hk
         ·cases hk
        ·cases hk
      ·have gv:ak w G (c.args.map a.eval).toList (lY cx e c.argTypes.toList c.args.toList):=by rw[Array.toList_map];exact Gm cx he _ _
       obtain⟨aS,G',h',e1,s1,r1,_,kg⟩:=LK _ _ _ _ _ _ st gv hk;have hg:∀cs,Good P B0 w0 G w k r ((builtin .append c.argTypes o.type cs (c.args.map a.eval)).run P w):=fun cs=>by obtain⟨v,w',g1,av,G2,h2,hx,gC,st2,hv,xC⟩:=zfz (ty:=o.type) (cs:=cs) hT s1 r1 kg;exact⟨v,w',g1,av,G2,h2,e1.trans (hx.mono (jG e1)),fun b o hd=>gC b o (e1.D b o hd),st2,hv,xC⟩
       exact hg _
     ·cases hk
    ·cases hk
   ·cases hk
  ·cases hk
 ·rename_i t ho;simp only[ho];split at hk
  ·rename_i T E hbt;obtain⟨hc,hk⟩:=zf hk;rw[b_]at hc;subst hc;split at hk
   ·rename_i ti ht;split at hk
    ·rename_i hz;obtain⟨hc,hk⟩:=zf hk;obtain⟨v,w',h1,h2⟩:=ztq st (hT t ti ht) hz hk;exact Good.v' h1 h2
    ·cases hk
   ·cases hk
  ·cases hk
 ·cases hk
theorem zww{X:Type}{cx:Cx X}{O:Open X}{Y:Ys}(hT:fC P cx.tab){B0:Nat}{w0:Wd}{h:H}(st:St B0 w0 G h w){a:Act}{e:Env}{N:Nat}(he:eN w G N a.tmps e)(o:Oper)
 (EO:∀c f,o.op = .call c→c.callee ≠ .value f) {k:AV→H→Option X} {r:X} (hk:mK cx O Y o e h k=some r):Good P B0 w0 G w k r ((execOp a.eval o).run P w):=by
 unfold mK at hk;cases hr:gG cx o e with
 |true=>rw[hr,cond_true]at hk;exact zwv hT st he o hr hk
 |false=>rw[hr,cond_false]at hk;exact zwr hT st he o EO hk
theorem zrp{X:Type}{cx:Cx X}{o:Oper}{e:Env}{c:Call}{f:Operand}(hc:o.op = .call c)(hf:c.callee = .value f):gG cx o e=false:=by unfold gG;simp only[hc,hf]
theorem zpa{X:Type}{cx:Cx X}{o:Oper}{e:Env}{c:Call}(hc:o.op = .defer c):gG cx o e=false:=by unfold gG;simp only[hc]
end
end Go.AM
namespace Go.AM
open Go.RowKit
section
variable {w:World} {G:GS} {m tm lm:Nat} {ks:List Bool}
def GS.cut(G:GS)(m lm:Nat)(F:List (Option Tk)):GS:={ G with bx:=G.bx.take m,tk:=F,lp:=G.lp.take lm }
theorem zqg{v:Value}{a:AV}{F:List (Option Tk)}(hF:∀i:Nat,i<tm→F[i]? = G.tk[i]? ∨ F[i]? = some none)(h:af w G v a):okF m tm lm a=true→af w (G.cut m lm F) v a:=by
 have hL:∀{cs:List AV},tu m tm lm cs=true→∀(i:Nat)(c:AV),cs[i]? = some c→okF m tm lm c=true:=by
  intro cs;induction cs with
  |nil=>intro _ i c h;simp at h
  |cons d ds ih =>
   intro h i c hc;simp only[tu,acf]at h;cases i with
   |zero=>simp at hc;subst hc;exact h.1
   |succ i=>exact ih h.2 i c (by simpa using hc)
 induction h with
 |any v=>intro _;exact .any v
 |bool b=>intro _;exact .bool b
 |int k n h=>intro _;exact .int k n h
 |str s l h hl=>intro _;exact .str s l h hl
 | sl τ l c v h hc =>
  intro ho;refine .sl τ l c v h ?_;cases c with
  |full=>exact hc
  |eY=>trivial
  |fresh=>trivial
  |own t =>
   simp only[okF,eV]at ho;obtain⟨o,h1,h2⟩:=hc;rcases hF t ho with e|e
   ·exact⟨o,e.trans h1,h2⟩
   ·exact⟨none,e,fun g hg=>by cases hg⟩
 |fe=>intro _;exact .fe
 |agg vs cs hl _ ih =>intro ho;simp only[okF]at ho;exact .agg vs cs hl fun i v c hv hc=>ih i v c hv hc (hL ho i c hc)
 |cr vs cs hl _ ih =>intro ho;simp only[okF]at ho;exact .cr vs cs hl fun i v c hv hc=>ih i v c hv hc (hL ho i c hc)
 |fX=>intro _;exact .fX
 |ref r off b h hv =>intro ho;simp only[okF,eV]at ho;exact .ref r off b (by simp only[GS.cut];rw[ack ho];exact h) hv
 |ms r v n τ x h0 hs h =>intro ho;simp only[okF,eV]at ho;obtain⟨b,hb,h⟩:=h;exact .ms r v n τ x h0 hs ⟨b,by simp only[GS.cut];rw[ack ho];exact hb,h⟩
 |ep r v i off τ x h0 hs h =>intro ho;simp only[okF,eV]at ho;obtain⟨b,hb,h⟩:=h;exact .ep r v i off τ x h0 hs ⟨b,by simp only[GS.cut];rw[ack ho];exact hb,h⟩
 |iM b o us cs hl hm _ ih =>intro ho;simp only[okF]at ho;exact .iM b o us cs hl hm fun i v c hv hc=>ih i v c hv hc (hL ho i c hc)
 |gp n b o c us cs h0 hc hl hm _ ih =>intro ho;simp only[okF]at ho;exact .gp n b o c us cs h0 hc hl hm fun i v c hv hc=>ih i v c hv hc (hL ho i c hc)
 |ea r T b v h hv hp =>intro ho;simp only[okF,eV]at ho;exact .ea r T b v (by simp only[GS.cut];rw[ack ho];exact h) hv hp
 |gq r b h hv =>intro ho;simp only[okF,eV]at ho;exact .gq r b (by simp only[GS.cut];rw[ack ho];exact h) hv
 |bl=>intro _;exact .bl
 |fn f x y a b hx _ hy _ i1 i2 =>intro ho;simp only[okF,acf]at ho;exact .fn f x y a b hx (fun i v c hv hc=>i1 i v c hv hc (hL ho.1 i c hc)) hy fun i v c hv hc=>i2 i v c hv hc (hL ho.2 i c hc)
 |yield j p h =>intro ho;simp only[okF,eV]at ho;exact .yield j p (by simp only[GS.cut];rw[ack ho];exact h)
 |jI=>intro _;exact .jI
 |ky t x=>intro _;exact .ky t x
structure ac6 (B0:Nat) (G:GS) (w:World) (L:List (Option Tk)):Prop where
 tok:∀(t:Nat)(g:Tk),L[t]? = some (some g)→DK B0 G w g
 gA:∀(t t':Nat)(g g':Tk),L[t]? = some (some g)→L[t']? = some (some g')→t≠t'→g.n<g.cap→g'.n<g'.cap→g.A≠g'.A
def fq(T T':List (Option Tk)):Prop:=T'.length=T.length∧∀i:Nat,T'[i]? = T[i]? ∨ T'[i]? = some none
theorem fq.refl(T:List (Option Tk)):fq T T:=⟨rfl,fun _ => .inl rfl⟩
theorem fq.trans{A B C:List (Option Tk)}(h:fq A B)(k:fq B C):fq A C:=⟨k.1.trans h.1,fun i=>by
 rcases k.2 i with e|e
 ·rw[e];exact h.2 i
 ·exact .inr e⟩
theorem fq.set(T:List (Option Tk))(t:Nat):fq T (T.set t none):=⟨by simp,fun i=>by
 rw[acn];by_cases h:t=i
 ·subst h;by_cases h2:t<T.length
  ·simp[h2]
  ·left;simp[h2]
 ·simp[h]⟩
theorem LN{T T':List (Option Tk)}(hl:fq T T'){v:Value}{a:AV}(h:af w { G with tk:=T } v a):af w { G with tk:=T' } v a:=by
 generalize hG:({ G with tk:=T }:GS)=G1 at h;induction h with
 |any v=>exact .any v
 |bool b=>exact .bool b
 |int k n h=>exact .int k n h
 |str s l h hl=>exact .str s l h hl
 | sl τ l c v h hc =>
  subst hG;refine .sl τ l c v h ?_;cases c with
  |full=>exact hc
  |eY=>trivial
  |fresh=>trivial
  |own t =>
   obtain⟨o,h1,h2⟩:=hc;rcases hl.2 t with e|e
   ·exact⟨o,e.trans h1,h2⟩
   ·exact⟨none,e,fun g hg=>by cases hg⟩
 |fe=>exact .fe
 |agg vs cs hl _ ih=>exact .agg vs cs hl fun i v c hv hc=>ih i v c hv hc
 |cr vs cs hl _ ih=>exact .cr vs cs hl fun i v c hv hc=>ih i v c hv hc
 |fX=>exact .fX
 |ref r off b h hv=>subst hG;exact .ref r off b h hv
 |ms r v n τ x h0 hs h=>subst hG;exact .ms r v n τ x h0 hs h
 |ep r v i off τ x h0 hs h=>subst hG;exact .ep r v i off τ x h0 hs h
 |iM b o us cs hl hm _ ih=>subst hG;exact .iM b o us cs hl hm fun i v c hv hc=>ih i v c hv hc
 |gp n b o c us cs h0 hc hl hm _ ih=>subst hG;exact .gp n b o c us cs h0 hc hl hm fun i v c hv hc=>ih i v c hv hc
 |ea r T b v h hv hp=>subst hG;exact .ea r T b v h hv hp
 |gq r b h hv=>subst hG;exact .gq r b h hv
 |bl=>exact .bl
 |fn f x y a b hx _ hy _ i1 i2=>exact .fn f x y a b hx (fun i v c hv hc=>i1 i v c hv hc) hy fun i v c hv hc=>i2 i v c hv hc
 |yield j p h=>subst hG;exact .yield j p h
 |jI=>exact .jI
 |ky t x=>exact .ky t x
structure NI (B0:Nat) (G:GS) (w:World) (tm:Nat) (T N:List (Option Tk)) (tk nw:List (Option Nat)):Prop where
 hT:tk=T.map (adI Tk.n)
 hN:nw=N.map (adI Tk.n)
 less:fq G.tk T
 tok:ac6 B0 G w (T++N)
def Fits(T:List (Option Tk))(tm:Nat)(N F:List (Option Tk)):Prop:=(∀i:Nat,i<tm→F[i]? = T[i]? ∨ F[i]? = some none)∧∀p:Nat,p<N.length→F[tm+p]? = N[p]? ∨ F[tm+p]? = some none
theorem Fits.mono{T T' N N' F:List (Option Tk)}(h:Fits T' tm N' F)(hl:fq T T'){x:List (Option Tk)}(hx:N'=N++x):Fits T tm N F:=⟨fun i hi=>by
 rcases h.1 i hi with e|e
 ·rw[e];exact hl.2 i
 ·exact .inr e,fun p hp=>by
 have:=h.2 p (by rw[hx];simp;omega);rwa[hx,acd hp]at this⟩
def iA(B0:Nat)(G:GS)(w:World)(tm:Nat)(T N:List (Option Tk))(r:List (Option Nat)×List (Option Nat))(ac7:List (Option Tk)→Prop):Prop:=
 ∃T' N',NI B0 G w tm T' N' r.1 r.2∧fq T T'∧(∃x,N'=N++x)∧∀F,Fits T' tm N' F→ac7 F
theorem LP {B0 : Nat} {T N:List (Option Tk)} {tk nw:List (Option Nat)} (hi:NI B0 G w tm T N tk nw) {v:Value} {a:AV} (hv:af w { G with tk:=T } v a) (ho:F2 m tm lm a=true) :
 iA B0 G w tm T N (sr ks tm tk nw a).2 fun F=>af w (G.cut m lm F) v (sr ks tm tk nw a).1:=by
 have stay:∀{b:AV},af w { G with tk:=T } v b→okF m tm lm b=true→iA B0 G w tm T N (tk,nw) fun F=>af w (G.cut m lm F) v b:=fun hb hk =>⟨T,N,hi,fq.refl _,⟨[],by simp⟩,fun F hF=>zqg (G:={ G with tk:=T }) (F:=F) hF.1 hb hk⟩;cases a with
 | sl τ l c =>
  have lN:al w G.D (.sl τ) l [v]:=by cases hv with|sl _ _ _ _ h _=>exact h
  have j7:qA { G with tk:=T } v l.length τ.size c:=by cases hv with|sl _ _ _ _ _ h=>exact h
  cases c with
  | full =>
   obtain⟨A,hA⟩:=j7;refine⟨T,N++[some ⟨l.length,none,l.length,τ.size⟩],⟨hi.hT,by simp[sr,hi.hN],hi.less,?_,?_⟩,fq.refl _,⟨_,rfl⟩,fun F hF => ?_⟩
   ·intro t g hg;rw[←acY]at hg;by_cases ht:t<(T++N).length
    ·rw[acd ht]at hg;exact hi.tok.tok t g hg
    ·rw[ace (by omega)]at hg;have:t - (T++N).length=0:=by have:=(ab9.1 hg).1;simp at this ⊢;omega
     rw[this]at hg;simp at hg;subst hg;exact⟨acQ _,fun h=>absurd h (Nat.lt_irrefl _)⟩
   ·have key:∀(t:Nat)(g:Tk),(T++(N++[some ⟨l.length,none,l.length,τ.size⟩]))[t]? = some (some g)→g.n<g.cap→(T++N)[t]? = some (some g):=by
     intro t g hg bo;rw[←acY]at hg;by_cases ht:t<(T++N).length
     ·rw[acd ht]at hg;exact hg
     ·rw[ace (by omega)]at hg;have:t - (T++N).length=0:=by have:=(ab9.1 hg).1;simp at this ⊢;omega
      rw[this]at hg;simp at hg;subst hg;exact absurd bo (Nat.lt_irrefl _)
    exact fun t t' g g' h1 h2 c_ l1 l2=>hi.tok.gA t t' g g' (key t g h1 l1) (key t' g' h2 l2) c_ l1 l2
   ·have hp:=hF.2 N.length (by simp);simp only[sr,hi.hN,List.length_map];rw[ace (acQ _),Nat.sub_self]at hp;rcases hp with hp|hp
    rotate_left
    ·exact .sl τ l _ v lN ⟨none,hp,fun g hg=>by cases hg⟩
    refine .sl τ l _ v lN ⟨some ⟨l.length,none,l.length,τ.size⟩,hp,fun g hg => ?_⟩
    ·obtain rfl:=ach hg;exact⟨acQ _,fun _=>⟨rfl,A,hA,fun h=>absurd h (Nat.lt_irrefl _)⟩⟩
  | own t =>
   simp only[sr];cases hb:(Nat.blt t tm&&(nth ks t).getD true)with
   |true=>exact stay hv (by simp only[acf]at hb;simpa[okF]using hb.1)
   | false =>
    simp only[cond_false];obtain⟨o,Gz,hg⟩:=j7;have yG:t<T.length:=(ab9.1 Gz).1;refine⟨T.set t none,N++[o],⟨?_,?_,hi.less.trans (fq.set T t),?_,?_⟩,fq.set T t,⟨_,rfl⟩,fun F hF => ?_⟩
    ·rw[zk,hi.hT,List.map_set];rfl
    ·rw[hi.hN,hi.hT,zo,acI];simp only at Gz;rw[Gz];simp
    ·intro t' g kF;by_cases jF:t'<T.length
     ·rw[acd (by simpa using jF)]at kF;rw[acn]at kF;by_cases e:t=t'
      ·subst e;simp[jF]at kF
      ·rw[if_neg e]at kF;exact hi.tok.tok t' g (by rw[acd jF];exact kF)
     ·rw[ace (by simp;omega)]at kF;simp only[acN]at kF;by_cases hn:t' - T.length<N.length
      ·rw[acd hn]at kF;exact hi.tok.tok t' g (by rw[ace (by omega)];exact kF)
      ·rw[ace (by omega)]at kF;have e0:t' - T.length - N.length=0:=by have:=(ab9.1 kF).1;simp at this;omega
       rw[e0]at kF;simp at kF;subst kF;exact hi.tok.tok t g (by rw[acd yG];exact Gz)
    ·
     have key:∀(t':Nat)(g:Tk),(T.set t none++(N++[o]))[t']? = some (some g)→(T++N)[if t'=T.length+N.length then t else t']? = some (some g)∧t'≠t:=by
      intro t' g kF;by_cases jF:t'<T.length
      ·rw[if_neg (by omega)];rw[acd (by simpa using jF)]at kF;rw[acn]at kF;by_cases e:t=t'
       ·subst e;simp[jF]at kF
       ·rw[if_neg e]at kF;exact⟨by rw[acd jF];exact kF,fun h=>e h.symm⟩
      ·rw[ace (by simp;omega)]at kF;simp only[acN]at kF;by_cases hn:t' - T.length<N.length
       ·rw[if_neg (by omega)];rw[acd hn]at kF;exact⟨by rw[ace (by omega)];exact kF,by omega⟩
       ·rw[ace (by omega)]at kF;have e0:t' - T.length - N.length=0:=by have:=(ab9.1 kF).1;simp at this;omega
        rw[e0]at kF;simp at kF;subst kF;rw[if_pos (by omega)];exact⟨by rw[acd yG];exact Gz,by omega⟩
     intro t1 t2 g g' h1 h2 c_ l1 l2;obtain⟨k1,n1⟩:=key t1 g h1;obtain⟨k2,n2⟩:=key t2 g' h2;refine hi.tok.gA _ _ g g' k1 k2 ?_ l1 l2;split<;>split<;>omega
    ·have hp:=hF.2 N.length (by simp);rw[hi.hN];simp only[List.length_map];rw[ace (acQ _),Nat.sub_self]at hp;rcases hp with hp|hp
     ·exact .sl τ l _ v lN ⟨o,hp,hg⟩
     ·exact .sl τ l _ v lN ⟨none,hp,fun g hg=>by cases hg⟩
  |eY=>exact⟨T,N,hi,fq.refl _,⟨[],by simp⟩,fun F hF => .sl τ l _ v lN trivial⟩
  |fresh=>exact⟨T,N,hi,fq.refl _,⟨[],by simp⟩,fun F hF => .sl τ l _ v lN trivial⟩
 |cr vs=>exact⟨T,N,hi,fq.refl _,⟨[],by simp⟩,fun F hF => .any v⟩
 |_=>exact stay hv ho
theorem iA.bind{B0:Nat}{T N:List (Option Tk)}{r r':List (Option Nat)×List (Option Nat)}{g1 g2 g:List (Option Tk)→Prop}(h:iA B0 G w tm T N r g1)
 (k:∀T' N',NI B0 G w tm T' N' r.1 r.2→fq T T'→iA B0 G w tm T' N' r' g2) (hg:∀F,g1 F→g2 F→g F):iA B0 G w tm T N r' g:=by
 obtain⟨T1,N1,hi,hl,⟨x,hx⟩,hF⟩:=h;obtain⟨T2,N2,qB,ni,⟨y,hy⟩,Vw⟩:=k T1 N1 hi hl;exact⟨T2,N2,qB,hl.trans ni,⟨x++y,by rw[hy,hx,acY]⟩,fun F f=>hg F (hF F (f.mono ni hy)) (Vw F f)⟩
theorem iA.imp{B0:Nat}{T N:List (Option Tk)}{r:List (Option Nat)×List (Option Nat)}{g1 g:List (Option Tk)→Prop}(h:iA B0 G w tm T N r g1)(hg:∀F,g1 F→g F):iA B0 G w tm T N r g:=by obtain⟨T1,N1,hi,hl,hx,hF⟩:=h;exact⟨T1,N1,hi,hl,hx,fun F f=>hg F (hF F f)⟩
theorem Vx{B0:Nat}:∀(cs:List AV)(vs:List Value)(T N:List (Option Tk))(tk nw:List (Option Nat)),NI B0 G w tm T N tk nw→ak w { G with tk:=T } vs cs→vO m tm lm cs=true →
 iA B0 G w tm T N (uH ks tm tk nw cs).2 fun F=>ak w (G.cut m lm F) vs (uH ks tm tk nw cs).1
 |[],vs,T,N,tk,nw,hi,hr,_=>by have:vs=[]:=acs (by simpa using hr.1);subst this;exact⟨T,N,hi,fq.refl _,⟨[],by simp⟩,fun F _ => .nil⟩
 |c::cs,[],T,N,tk,nw,hi,hr,_=>by have:=hr.1;simp at this
 |c::cs,v::vs,T,N,tk,nw,hi,hr,ho=>by simp only[vO,acf]at ho;obtain⟨h1,h2⟩:=hr.tail;exact(LP (m:=m) (lm:=lm) hi h1 ho.1).bind (fun T' N' uV nD=>Vx cs vs T' N' _ _ uV ⟨h2.1,fun i v c a b=>LN nD (h2.2 i v c a b)⟩ ho.2) (fun F a b => .cons a b)
theorem zwx{B0:Nat}{T N:List (Option Tk)}{tk nw:List (Option Nat)}(hi:NI B0 G w tm T N tk nw){v:Value}{a:AV}(hv:af w { G with tk:=T } v a)(ho:okR m tm lm a=true) :
 iA B0 G w tm T N (rn ks tm tk nw a).2 fun F=>af w (G.cut m lm F) v (rn ks tm tk nw a).1:=by
 cases a with
 |agg cs =>
  cases hv with
  |agg vs _ hl h =>exact(Vx (m:=m) (lm:=lm) cs vs.toList T N tk nw hi ⟨by simpa using hl,fun i v c a b=>h i v c (by simpa using a) b⟩ ho).imp fun F hF =>.agg _ _ (by simpa using hF.1) fun i v c a b=>hF.2 i v c (by simpa using a) b
 |_=>exact LP hi hv ho
theorem zkp{B0:Nat}{tmps:Array Value}:∀(e:Env)(T N:List (Option Tk))(tk nw:List (Option Nat)),NI B0 G w tm T N tk nw→(∀p∈e,af w { G with tk:=T } (tmps.getD p.1 undef) p.2)→DF m tm lm e=true →
 iA B0 G w tm T N (Ct ks tm tk nw e).2 fun F=>∀p∈(Ct ks tm tk nw e).1,af w (G.cut m lm F) (tmps.getD p.1 undef) p.2
 |[],T,N,tk,nw,hi,hr,_=>⟨T,N,hi,fq.refl _,⟨[],by simp⟩,fun F _ p hp=>by simp[Ct]at hp⟩
 |(d,c)::e,T,N,tk,nw,hi,hr,ho=>by
  simp only[DF,acf]at ho;refine(zwx (m:=m) (lm:=lm) hi (hr (d,c) (by simp)) ho.1).bind (fun T' N' uV nD=>zkp e T' N' _ _ uV (fun p hp=>LN nD (hr p (by simp[hp]))) ho.2) (fun F a b p hp => ?_);simp only[Ct,adw]at hp;rcases hp with rfl|hp
  ·exact a
  ·exact b p hp
theorem zkq{T T':List (Option Tk)}(hl:fq T T'){k:Nat}{vs:List Value}{cs:List AV}(h:iS w { G with tk:=T } k vs cs):iS w { G with tk:=T' } k vs cs:=by
 cases h with
 |box _ h hv ni =>have h2:ak w { G with tk:=T' } vs cs:=⟨ni.1,fun j v cc x y=>LN hl (ni.2 j v cc x y)⟩;exact .box _ _ h hv h2
 |row v τ l cap h0 hv hz hc hm hs ni h1=>exact .row _ v τ l cap h0 hv hz hc hm hs ni h1
theorem zir{B0 k:Nat}(cs:List AV)(vs:List Value)(T N:List (Option Tk))(tk nw:List (Option Nat))(hi:NI B0 G w tm T N tk nw)(hr:iS w { G with tk:=T } k vs cs)(ho:vO m tm lm cs=true) :
 iA B0 G w tm T N (uH ks tm tk nw cs).2 fun F=>iS w (G.cut m lm F) k vs (uH ks tm tk nw cs).1:=by
 cases hr with
 |box _ h hv ni =>obtain⟨T',N',a1,a2,a3,a4⟩:=Vx (m:=m) (lm:=lm) cs vs T N tk nw hi ni ho;exact⟨T',N',a1,a2,a3,fun F hF => .box _ _ (a4 F hF).oZ hv (a4 F hF)⟩
 |row v τ l cap h0 hv hz hc hm hs ni h1=>exact⟨T,N,hi,fq.refl _,⟨[],by simp⟩,fun F _ => .row _ v τ l cap h0 hv hz hc hm hs ni h1⟩
theorem zts{ks:List Bool}{tm:Nat}{tk nw:List (Option Nat)}{v:AV}{r T:Nat}(h:(sr ks tm tk nw v).1 = .ea r T):v = .ea r T:=by
 unfold sr at h;split at h
 ·cases h
 ·cases hc:(Nat.blt _ tm&&(nth ks _).getD true)<;>rw[hc]at h<;>cases h
 ·cases h
 ·cases h
 ·exact h
theorem z0o{ks:List Bool}{tm:Nat}{tk nw:List (Option Nat)}{v:AV}{n:Nat}{τ:Ty}{l:List τ.den}(h:(sr ks tm tk nw v).1 = .row n τ l):v = .row n τ l:=by
 unfold sr at h;split at h
 ·cases h
 ·cases hc:(Nat.blt _ tm&&(nth ks _).getD true)<;>rw[hc]at h<;>cases h
 ·cases h
 ·cases h
 ·exact h
theorem z3s{ks:List Bool}{tm:Nat}{tk nw:List (Option Nat)}{cs:List AV}{T:Nat}(h:iQ (uH ks tm tk nw cs).1=some T):iQ cs=some T:=by
 cases cs with
 |nil=>exact h
 |cons c cs =>
  simp only[uH]at h;unfold iQ at h;split at h
  ·rename_i r T' q e;simp only[acE]at e;rw[zts e.1];exact h
  ·rename_i n E l q e;simp only[acE]at e;rw[z0o e.1];exact h
  ·cases h
theorem ztt{s:SV}{v:AV}{r T:Nat}(h:w8 s v = .ea r T):v = .ea r T:=by
 unfold w8 at h
 repeat' split at h
 all_goals first|exact h|cases h
theorem z0p{s:SV}{v:AV}{n:Nat}{τ:Ty}{l:List τ.den}(h:w8 s v = .row n τ l):v = .row n τ l:=by
 unfold w8 at h
 repeat' split at h
 all_goals first|exact h|cases h
theorem z3t{ss:List SV}{cs:List AV}{T:Nat}(h:iQ (w9 ss cs)=some T):iQ cs=some T:=by
 cases ss with
 |nil=>exact h
 | cons s ss =>
  cases cs with
  |nil=>exact h
  |cons c cs =>
   simp only[w9]at h;unfold iQ at h;split at h
   ·rename_i r T' q e;simp only[acE]at e;rw[ztt e.1];exact h
   ·rename_i n E l q e;simp only[acE]at e;rw[z0p e.1];exact h
   ·cases h
def xD(w:World)(G:GS)(r:Nat):Option Obj→List AV→Prop
 |some ob,cs=>jB w G r ob cs
 |none,cs=>iS w G r [] cs
theorem Vy{T T':List (Option Tk)}(hl:fq T T'){k:Nat}{o:Option Obj}{cs:List AV}(h:xD w { G with tk:=T } k o cs):xD w { G with tk:=T' } k o cs:=by
 cases o with
 |none=>exact zkq hl h
 |some ob =>
  have h':jB w { G with tk:=T } k ob cs:=h;show jB w { G with tk:=T' } k ob cs;cases h' with
  |cells vs t _ h1 ht=>exact .cells vs t _ (zkq hl h1) ht
  |mp es c l hv h1=>exact .mp es c l hv h1
  |fm l c hv=>exact .fm l c hv
theorem zrq{B0 k:Nat}(cs:List AV)(o:Option Obj)(T N:List (Option Tk))(tk nw:List (Option Nat))(hi:NI B0 G w tm T N tk nw)(hr:xD w { G with tk:=T } k o cs)(ho:vO m tm lm cs=true) :
 iA B0 G w tm T N (uH ks tm tk nw cs).2 fun F=>xD w (G.cut m lm F) k o (uH ks tm tk nw cs).1:=by
 cases o with
 |none=>exact zir cs [] T N tk nw hi hr ho
 |some ob =>
  have fN:jB w { G with tk:=T } k ob cs:=hr;cases fN with
  |cells vs t _ h ht=>exact(zir cs vs.toList T N tk nw hi h ho).imp fun F hF=>jB.cells vs t _ hF fun T' hT'=>ht T' (z3s hT')
  |mp es c l hv h=>exact⟨T,N,hi,fq.refl _,⟨[],by simp[uH,sr]⟩,fun F _=>jB.mp es c l hv h⟩
  |fm l c hv=>exact⟨T,N,hi,fq.refl _,⟨[],by simp[uH,sr]⟩,fun F _=>jB.fm l c hv⟩
theorem zkr{B0:Nat}:∀(b:List (List AV))(rows:List (Option Obj))(k:Nat)(T N:List (Option Tk))(tk nw:List (Option Nat)),NI B0 G w tm T N tk nw→rows.length=b.length →
 (∀(i:Nat)(vs:Option Obj)(cs:List AV),rows[i]? = some vs→b[i]? = some cs→xD w { G with tk:=T } (k+i) vs cs)→w7 m tm lm b=true →
 iA B0 G w tm T N (Bt ks tm tk nw b).2 fun F=>(Bt ks tm tk nw b).1.length=b.length∧∀(i:Nat)(vs:Option Obj)(cs:List AV),rows[i]? = some vs→(Bt ks tm tk nw b).1[i]? = some cs→xD w (G.cut m lm F) (k+i) vs cs
 |[],rows,k,T,N,tk,nw,hi,hl,hr,_=>⟨T,N,hi,fq.refl _,⟨[],by simp⟩,fun F _=>⟨rfl,fun i vs cs _ h=>by simp[Bt]at h⟩⟩
 |c::b,[],k,T,N,tk,nw,hi,hl,hr,_=>by simp at hl
 |c :: b,r::rows,k,T,N,tk,nw,hi,hl,hr,ho=>by
  simp only[w7,acf]at ho;refine(zrq (m:=m) (lm:=lm) c r T N tk nw hi (hr 0 r c rfl rfl) ho.1).bind (fun T' N' uV nD=>zkr b rows (k+1) T' N' _ _ uV (by simpa using hl) (fun i vs cs a d=>by have:=Vy nD (hr (i+1) vs cs (by simpa using a) (by simpa using d));rwa[show k+(i+1)=k+1+i from by omega]at this) ho.2) (fun F a b'=>⟨by simp[Bt,b'.1],fun i vs cs x y => ?_⟩);simp only[Bt]at y;cases i with
  |zero =>simp at x y;subst x;subst y;exact a
  |succ i =>have:=b'.2 i vs cs (by simpa using x) (by simpa using y);rwa[show k+1+i=k+(i+1)from by omega]at this
theorem zmm{lv:List Nat}{e:Env}{t:Nat}{N:Nat}{tmps:Array Value}{e':Env}{G':GS}(hs:tmps.size=N)(h:∀p∈e',af w G' (tmps.getD p.1 undef) p.2):eN w G' N tmps e':=by
 refine⟨hs,fun t => ?_⟩;induction e' with
 |nil=>exact .any _
 |cons p e ih =>
  obtain⟨d,v⟩:=p;rw[Lw];by_cases hd:d=t
  ·subst hd;rw[if_pos rfl];exact h (d,v) (by simp)
  ·rw[if_neg hd];exact ih fun p hp=>h p (by simp[hp])
mutual
theorem zqh{w:World}{G:GS}:∀(s:SV)(a:AV)(v:Value),af w G v a→af w G v (w8 s a)
 | .sl τ c,a,v,h=>by
  unfold w8;split
  ·split
   ·cases h with|sl _ _ _ _ h _=>exact .sl _ _ _ _ h trivial
   ·exact h
  ·have h2:af w G v (.sl τ [] .full):=iZ h (some (.sl τ));split
   ·cases h2 with|sl _ _ _ _ h _=>exact .sl _ _ _ _ h trivial
   ·exact h2
  ·exact h
 |.const c,a,v,h=>by
  unfold w8;split
  ·exact .any _
  ·exact h
 | .agg vs,a,v,h=>by
  unfold w8;split
  ·rename_i cs;cases h with
   |agg us _ hl hr =>have:=GC vs cs us.toList ⟨by simpa using hl,fun i v c a b=>hr i v c (by simpa using a) b⟩;exact .agg _ _ (by simpa using this.1) fun i v c a b=>this.2 i v c (by simpa using a) b
  ·exact h
 | .fn f p q,a,v,h=>by
  unfold w8;split
  ·cases h with
   |fn g x y _ _ hx h1 hy h2 =>have r1:=GC p _ x.toList ⟨by simpa using hx,fun i v c a b=>h1 i v c (by simpa using a) b⟩;have r2:=GC q _ y.toList ⟨by simpa using hy,fun i v c a b=>h2 i v c (by simpa using a) b⟩;exact .fn _ _ _ _ _ (by simpa using r1.1) (fun i v c a b=>r1.2 i v c (by simpa using a) b) (by simpa using r2.1) fun i v c a b=>r2.2 i v c (by simpa using a) b
  ·exact h
 |.int _,a,v,h=>h
 |.bool,a,v,h=>h
 |.str,a,v,h=>h
 |.err,a,v,h=>h
 |.row _,a,v,h=>h
 |.ms _ _,a,v,h=>h
 |.mp,a,v,h=>h
theorem GC{w:World}{G:GS}:∀(ss:List SV)(cs:List AV)(vs:List Value),ak w G vs cs→ak w G vs (w9 ss cs)
 |[],cs,vs,h=>h
 |s::ss,[],vs,h=>by unfold w9;exact h
 |s::ss,c::cs,[],h=>by have:=h.1;simp at this
 |s::ss,c::cs,v::vs,h=>by obtain⟨h1,h2⟩:=h.tail;unfold w9;exact .cons (zqh s c v h1) (GC ss cs vs h2)
end
theorem zqi{w:World}{G:GS}{N:Nat}{tmps:Array Value}{e:Env}(he:eN w G N tmps e):∀(vs:List (Nat×SV)),∀p∈F3 e vs,af w G (tmps.getD p.1 undef) p.2
 |[],p,h=>by simp[F3]at h
 |(t,s)::vs,p,h=>by
  simp only[F3,adw]at h;rcases h with rfl|h
  ·exact zqh s _ _ (he.rep t)
  ·exact zqi he vs p h
theorem Vz:∀(ss:List (List SV))(b:List (List AV))(i:Nat)(cs:List AV),(Bu ss b)[i]? = some cs→∃ds,b[i]? = some ds∧(cs=ds∨isRow ds=false∧∃s,cs=w9 s ds)
 |[],b,i,cs,h=>⟨cs,h,.inl rfl⟩
 |s::ss,[],i,cs,h=>by simp[Bu]at h
 |s::ss,c::b,0,cs,h=>by
  simp only[Bu,ada,acj]at h;cases hr:isRow c with
  |true=>rw[hr,cond_true]at h;exact⟨c,rfl,.inl h.symm⟩
  |false=>rw[hr,cond_false]at h;exact⟨c,rfl,.inr ⟨hr,s,h.symm⟩⟩
 |s::ss,c::b,i+1,cs,h=>by simp only[Bu,adb]at h;simpa using Vz ss b i cs h
theorem zqj:∀(ss:List (List SV))(b:List (List AV)),(Bu ss b).length=b.length
 |[],b=>rfl
 |s::ss,[]=>rfl
 |s::ss,c::b=>by simp[Bu,zqj ss b]
theorem zmn{m tm lm:Nat}:∀{b:List (List AV)}{r:Nat}{cs:List AV},w7 m tm lm b=true→b[r]? = some cs→vO m tm lm cs=true
 |[],r,cs,_,h=>by simp at h
 |c::b,0,cs,ho,h=>by simp only[w7,acf]at ho;simp at h;subst h;exact ho.1
 |c::b,r+1,cs,ho,h=>by simp only[w7,acf]at ho;exact zmn ho.2 (by simpa using h)
theorem VA{α β:Type}(f:α→β):∀(k:List Bool)(l:List (Option α)),(lX k l).map (adI f)=lX k (l.map (adI f))
 |[],l=>rfl
 |true::k,[]=>rfl
 |false::k,[]=>rfl
 |true::k,a::l=>by simp only[lX,adk,VA f k l]
 |false::k,a::l=>by simp only[lX,adk,VA f k l,Option.map_none]
theorem GD{α:Type}:∀(k:List Bool)(l:List (Option α))(i:Nat),(lX k l)[i]? = l[i]? ∨ (lX k l)[i]? = some none
 |[],l,i => .inl rfl
 |true::k,[],i => .inl rfl
 |false::k,[],i => .inl rfl
 |true::k,a::l,0 => .inl rfl
 |false::k,a::l,0 => .inr rfl
 |true::k,a::l,i+1=>by simpa[lX]using GD k l i
 |false::k,a::l,i+1=>by simpa[lX]using GD k l i
theorem zpb{B0:Nat}{w0:Wd}{h h':H}(st:St B0 w0 G h w){N:Nat}{tmps:Array Value}{e1 e':Env}(hs:tmps.size=N)(he:∀p∈e1,af w G (tmps.getD p.1 undef) p.2){B:cF}{b1:List (List AV)}(GF:b1.length=m)(kB:∀(r:Nat)(cs:List AV)(ob:Obj)(b:Nat),r<m→b1[r]? = some cs→G.bx[r]? = some (some b)→w.heap[b]? = some ob→jB w G r ob cs)(adh:∀(r:Nat)(cs:List AV),r<m→b1[r]? = some cs→G.bx[r]? = some none→ND G r cs)(hn:zS ks B e1 b1 m tm lm h=some (e',h')) :
 ∃G',St B0 w0 G' h' w∧eN w G' N tmps e'∧Ext B G G':=by
 unfold zS at hn;obtain⟨hc,hn⟩:=zf hn;simp only[acf,jZ]at hc;obtain⟨⟨⟨⟨⟨⟨⟨q1,q2⟩,q3⟩,q4⟩,q5⟩,q6⟩,o1⟩,o2⟩:=hc;simp only[acj,adJ]at hn;obtain⟨rfl,rfl⟩:=hn;have EW:NI B0 G w tm G.tk [] h.tk []:=⟨st.fO,rfl,fq.refl _,⟨fun t g hg=>st.tok t g (by simpa using hg),fun t t' g g' h1 h2=>st.gA t t' g g' (by simpa using h1) (by simpa using h2)⟩⟩;have hE:=zkp (ks:=ks) (m:=m) (lm:=lm) (tmps:=tmps) e1 G.tk [] h.tk [] EW he o1
 have ix:∀(r:Nat)(cs:List AV),r<m→b1[r]? = some cs→G.bx[r]? = some none→xi G r cs:=fun r cs hr hc hb=>by
  rcases adh r cs hr hc hb with h|⟨h,_⟩
  ·exact h
  ·have:=zmn o2 hc;rw[h]at this;cases this
 let rows:List (Option Obj):=(G.bx.take m).map fun(b:Option Nat)=>match b with|some b=>w.heap[b]? |none=>none
 have adi:=st.eb;have bX:∀(T:List (Option Tk)),fq G.tk T→∀(i:Nat)(vs:Option Obj)(cs:List AV),rows[i]? = some vs→b1[i]? = some cs→xD w { G with tk:=T } i vs cs:=by
  intro T hT i vs cs hv dy;simp only[rows,acI]at hv;obtain⟨b,hb,rfl⟩:=acT.1 hv;have VB:i<m:=by have:=(ab9.1 hb).1;simp at this;omega
  rw[ack VB]at hb;have GG:i<h.bx.length:=by omega
  cases b with
  |none=>exact Vy (o:=none) hT (T:=G.tk) ((ix i cs VB dy hb).toB w)
  |some b =>
  obtain⟨_,ob,hh,_⟩:=st.box i b _ hb (acp GG);have hr:=kB i cs ob b VB dy hb hh;simp only[hh];exact Vy (o:=some ob) hT (T:=G.tk) hr
 obtain⟨T2,N2,qB,ni,_,Vw⟩:=hE.bind (g:=fun F=>(∀p∈(Ct ks tm h.tk [] e1).1,af w (G.cut m lm F) (tmps.getD p.1 undef) p.2)∧_)
  (fun T' N' uV nD=>zkr (m:=m) (lm:=lm) b1 rows 0 T' N' _ _ uV (by simp[rows,GF];omega) (fun i vs cs x y=>by rw[acK];exact bX T' uV.less i vs cs x y) o2) (fun F a b=>⟨a,b⟩)
 have yG:T2.length=G.tk.length:=qB.less.1;have EX:G.tk.length=h.tk.length:=by rw[st.fO];simp
 let L:List (Option Tk):=T2.take tm++N2
 let F:List (Option Tk):=lX ks L
 have DN:∀i:Nat,i<tm→L[i]? = T2[i]?:=fun i hi=>by simp only[L];rw[acd (by simp;omega),ack hi]
 have GH:∀p:Nat,L[tm+p]? = N2[p]?:=fun p=>by simp only[L];rw[ace (by simp;omega)];congr 1;simp;omega
 have BD:Fits T2 tm N2 F:=⟨fun i hi=>by have:=GD ks L i;rwa[DN i hi]at this,fun p _=>by have:=GD ks L (tm+p);rwa[GH p]at this⟩;obtain⟨g1,g2,g3⟩:=Vw F BD;have Aj:∀(t:Nat)(g:Tk),F[t]? = some (some g)→(T2++N2)[if t<tm then t else T2.length+(t - tm)]? = some (some g):=by
  intro t g ht;replace ht:L[t]? = some (some g):=by
   rcases GD ks L t with e|e
   ·exact e.symm.trans ht
   ·have:=e.symm.trans ht;cases this
  by_cases Ak:t<tm
  ·rw[if_pos Ak,acd (by omega),←DN t Ak];exact ht
  ·rw[if_neg Ak,ace (by omega)];rw[show t=tm+(t - tm)from by omega,GH]at ht;rw[show T2.length+(t - tm) - T2.length=t - tm from by omega];exact ht
 refine⟨G.cut m lm F,?_,zmm (lv:=[]) (e:=[]) (t:=0) hs g1,?_⟩
 ·exact
  { below:=st.below
    b0:=st.b0
    eb:=by simp only[GS.cut];rw[g2,GF];simp;omega
    box := fun r b cs h1 h2=>by
     have LQ:r<m:=by have:=(ab9.1 h1).1;simp[GS.cut]at this;omega
     simp only[GS.cut]at h1;have qc:=h1;rw[ack LQ]at h1;have oI:r<h.bx.length:=by rw[adi];exact(ab9.1 h1).1
     obtain⟨hB,ob,hh,_⟩:=st.box r b _ h1 (acp oI);have g4:=g3 r (some ob) cs (by simp only[rows,acI,qc,Option.map_some,hh]) h2;rw[acK]at g4;exact⟨hB,ob,hh,g4⟩
    fl:=fun r cs h1 h2=>by
     have LQ:r<m:=by have:=(ab9.1 h1).1;simp[GS.cut]at this;omega
     simp only[GS.cut]at h1;have qc:=h1;rw[ack LQ]at h1;have g4:iS w (G.cut m lm F) (0+r) [] cs:=g3 r none cs (by simp only[rows,acI,qc,Option.map_some]) h2;rw[acK]at g4;have hbr:r<b1.length:=by omega
     obtain⟨v,_,_,h0,_,hv⟩:=ix r b1[r] LQ (by simp) h1;exact .inl (g4.toN (by show 0<(G.bv r).v;rw[hv];exact h0))
    inj := fun r r' b h1 h2=>by
     simp only[GS.cut]at h1 h2;have e1:r<m:=by have:=(ab9.1 h1).1;simp at this;omega
     have e2:r'<m:=by have:=(ab9.1 h2).1;simp at this;omega
     rw[ack e1]at h1;rw[ack e2]at h2;exact st.inj r r' b h1 h2
    ec:=fun b o x=>⟨(st.ec b o x).1,fun hm=>(st.ec b o x).2 (List.mem_of_mem_take hm)⟩
    fo:=st.fo
    fO:=by simp only[GS.cut,F,L];rw[VA,adq,List.map_take,←qB.hT,←qB.hN,tC tm]
    tok:=fun t g ht=>by obtain⟨h1,h2⟩:=qB.tok.tok _ g (Aj t g ht);refine⟨h1,fun bo => ?_⟩;obtain⟨b,hA,hB,xu,rest⟩:=h2 bo;exact⟨b,hA,hB,fun hm=>xu (List.mem_of_mem_take hm),rest⟩
    gA:=fun t t' g g' h1 h2 c_=>by refine qB.tok.gA _ _ g g' (Aj t g h1) (Aj t' g' h2) ?_;have l1:=(ab9.1 h1).1;have l2:=(ab9.1 h2).1;split<;>split<;>omega
    fU:=by simp only[GS.cut,tC];simp[st.fU]
    loop:=fun j p s h1 h2=>by
     simp only[GS.cut]at h1;simp only[tC]at h2;have e1:j<lm:=by have:=(ab9.1 h1).1;simp at this;omega
     rw[ack e1]at h1 h2;exact st.loop j p s h1 h2
    ie := fun j j' p p' h1 h2=>by
     simp only[GS.cut]at h1 h2;have e1:j<lm:=by have:=(ab9.1 h1).1;simp at this;omega
     have e2:j'<lm:=by have:=(ab9.1 h2).1;simp at this;omega
     rw[ack e1]at h1;rw[ack e2]at h2;exact st.ie j j' p p' h1 h2
    gu:=st.gu
    ig:=st.ig }
 ·exact
  { D := fun _ _ x=>x
    bx:=fun r hr => .inl ⟨by simp only[GS.cut];rw[ack (by omega)],rfl⟩
    tk:=fun t ht=>by
     have jF:t<tm:=by omega
     have e0:G.tk[t]? = some (G.tk[t]'(by omega)):=acp (by omega);have:F[t]? = G.tk[t]? ∨ F[t]? = some none:=by
      rcases BD.1 t jF with e|e
      ·rw[e];exact qB.less.2 t
      ·exact .inr e
     rcases this with e|e
     ·exact⟨_,_,e0,e.trans e0,.inr (.inl rfl)⟩
     ·exact⟨_,none,e0,e,.inl rfl⟩
    lp:=fun j hj=>by simp only[GS.cut];rw[ack (by omega)]
    df:=rfl }
end
end Go.AM
namespace Go.AM
section
variable {X:Type} {cx:Cx X} {O:Open X} {Y:Ys}
theorem zis{tab:Nat→Option TI}{fs:List (Nat×Nat)}{e e':Env}:∀(ps:List (Nat×Operand))(cs:List AV),(∀p∈ps,ev e p.2=ev e' p.2)→mG tab fs e ps cs=mG tab fs e' ps cs
 |[],cs,_=>rfl
 |(i,x)::r,cs,h=>by have ih:=fun cs=>zis (tab:=tab) (fs:=fs) r cs (fun p hp=>h p (by simp[hp]));simp only[mG,h (i,x) (by simp),ih]
theorem zit{ti:TI}{e e':Env}:∀(ps:List (Nat×Operand))(cs:List AV),(∀p∈ps,ev e p.2=ev e' p.2)→mH ti e ps cs=mH ti e' ps cs
 |[],cs,_=>rfl
 |(i,x)::r,cs,h=>by have ih:=fun cs=>zit (ti:=ti) r cs (fun p hp=>h p (by simp[hp]));simp only[mH,h (i,x) (by simp),ih]
theorem VC{τ:Ty}{e e':Env}:∀(n:Nat)(ps:List (Nat×Operand)),(∀p∈ps,ev e p.2=ev e' p.2)→ja τ e n ps=ja τ e' n ps
 |_,[],_=>rfl
 |n,(i,x)::r,h=>by have ih:=fun n=>VC (τ:=τ) n r (fun p hp=>h p (by simp[hp]));simp only[ja,h (i,x) (by simp),ih]
theorem zhd{ti:TI}{e e':Env}:∀(n:Nat)(ps:List (Nat×Operand)),(∀p∈ps,ev e p.2=ev e' p.2)→ko ti e n ps=ko ti e' n ps
 |_,[],_=>rfl
 |n,(i,x)::r,h=>by have ih:=fun n=>zhd (ti:=ti) n r (fun p hp=>h p (by simp[hp]));simp only[ko,h (i,x) (by simp),ih]
theorem GI{e e':Env}:∀(ts:List Nat)(xs:List Operand),(∀x∈xs,ev e x=ev e' x)→lY cx e ts xs=lY cx e' ts xs
 |_,[],_=>rfl
 |[],x::xs,h=>by have ih:=GI [] xs (fun y hy=>h y (by simp[hy]));simp only[lY,h x (by simp),ih]
 |t::ts,x::xs,h=>by have ih:=GI ts xs (fun y hy=>h y (by simp[hy]));simp only[lY,h x (by simp),ih]
theorem z0q{e e':Env}{hh:H}{k:AV→H→Option X}(o:Oper)(h:∀x∈o.op.operands,ev e x=ev e' x):fK cx O Y o e hh k=fK cx O Y o e' hh k:=by
 unfold fK;cases fH:o.op with
 |move x=>rw[fH]at h;simp only[acg]at h;simp only[h x (by simp)]
 |assign x=>rw[fH]at h;simp only[acg]at h;simp only[h x (by simp)]
 |pick c a b=>rw[fH]at h;simp only[acg]at h;simp only[h c (by simp),h a (by simp),h b (by simp)]
 |alloc t=>rfl
 |box t x=>rw[fH]at h;simp only[acg]at h;simp only[h x (by simp)]
 |build t ps =>rw[fH]at h;simp only[acg,adC,List.mem_map]at h;have h1:∀p∈ps.toList,ev e p.2=ev e' p.2:=fun p hp=>h _ ⟨p,hp,rfl⟩;simp only[zis _ _ h1,zit _ _ h1]
 |buildSlice t n ps =>rw[fH]at h;simp only[acg,adC,List.mem_map]at h;have h1:∀p∈ps.toList,ev e p.2=ev e' p.2:=fun p hp=>h _ ⟨p,hp,rfl⟩;simp only[VC _ _ h1,zhd _ _ h1]
 |load t x=>rw[fH]at h;simp only[acg]at h;simp only[h x (by simp)]
 |store t a v=>rw[fH]at h;simp only[acg]at h;simp only[h a (by simp),h v (by simp)]
 |nilCheck x=>rw[fH]at h;simp only[acg]at h;simp only[h x (by simp)]
 |binOp op t a v yt=>rw[fH]at h;simp only[acg]at h;simp only[h a (by simp),h v (by simp)]
 |unOp op t x=>rw[fH]at h;simp only[acg]at h;simp only[h x (by simp)]
 |convert s d x=>rw[fH]at h;simp only[acg]at h;simp only[h x (by simp)]
 |makeSlice t l c=>rw[fH]at h;simp only[acg]at h;simp only[h l (by simp),h c (by simp)]
 |lookup t m x b=>rw[fH]at h;simp only[acg]at h;cases b<;>first |rfl |simp only[h m (by simp),h x (by simp)]
 |makeFunc f first cap =>
  rw[fH]at h;simp only[acg]at h;have h1:first.toList.map (ev e)=first.toList.map (ev e'):=List.map_congr_left fun x hx=>h x (by simp at hx ⊢;exact .inl hx)
  have h2:cap.toList.map (ev e)=cap.toList.map (ev e'):=List.map_congr_left fun x hx=>h x (by simp at hx ⊢;exact .inr hx);cases f with
  |func f=>simp only[h1,h2]
  |_=>rfl
 | slice t x lo hi mx =>
  rw[fH]at h;simp only[acg]at h
  have ho:∀(q:Option Operand),(∀y∈q.toArray,ev e y=ev e' y)→q.map (ev e)=q.map (ev e'):=fun q hq=>by
   cases q with
   |none=>rfl
   |some y=>simp[hq y (by simp)]
  have h1:=ho lo (fun y hy=>h y (by simp at hy ⊢;simp[hy]));have h2:=ho hi (fun y hy=>h y (by simp at hy ⊢;simp[hy]));have h3:=ho mx (fun y hy=>h y (by simp at hy ⊢;simp[hy]));simp only[h x (by simp),h1,h2,h3]
 |fieldAddr t x f=>rw[fH]at h;simp only[acg]at h;simp only[h x (by simp)]
 |field t x f=>rw[fH]at h;simp only[acg]at h;simp only[h x (by simp)]
 |indexAddr t a v=>rw[fH]at h;simp only[acg]at h;simp only[h a (by simp),h v (by simp)]
 |index t a v=>rw[fH]at h;simp only[acg]at h;simp only[h a (by simp),h v (by simp)]
 |extract t i=>rw[fH]at h;simp only[acg]at h;simp only[h t (by simp)]
 |call c =>
  rw[fH]at h;simp only[acg,adl]at h;cases hc:c.callee with
  |builtin b =>rw[hc]at h;simp only at h;simp only[hc];rw[GI _ _ fun x hx=>h x (by simp at hx ⊢;exact hx)]
  |value f =>rw[hc]at h;simp only at h;simp only[hc];rw[GI _ _ fun x hx=>h x (by simp at hx ⊢;exact .inr hx),h f (by simp)]
  |invoke r n=>simp only[hc]
 |_=>rfl
theorem zhe{e e':Env}(o:Oper)(h:∀x∈o.op.operands,ev e x=ev e' x):gG cx o e=gG cx o e':=by
 unfold gG;cases fH:o.op with
 |move x=>rw[fH]at h;simp only[acg]at h;simp only[h x (by simp)]
 |assign x=>rw[fH]at h;simp only[acg]at h;simp only[h x (by simp)]
 |load t x=>rw[fH]at h;simp only[acg]at h;simp only[h x (by simp)]
 |store t a v=>rw[fH]at h;simp only[acg]at h;simp only[h a (by simp),h v (by simp)]
 |fieldAddr t x f=>rw[fH]at h;simp only[acg]at h;simp only[h x (by simp)]
 |indexAddr t a v=>rw[fH]at h;simp only[acg]at h;simp only[h a (by simp)]
 |slice t x lo hi mx=>rw[fH]at h;simp only[acg]at h;simp only[h x (by simp)]
 |convert s d x=>rw[fH]at h;simp only[acg]at h;simp only[h x (by simp)]
 | call c =>
  rw[fH]at h;simp only[acg,adl]at h;cases hc:c.callee with
  | builtin b =>
   rw[hc]at h;simp only at h;simp only[hc]
   have key:(match c.args.toList with|x::_=>lh (ev e x) |[]=>false)=(match c.args.toList with|x::_=>lh (ev e' x) |[]=>false):=by
    cases ha:c.args.toList with
    |nil=>rfl
    |cons x xs =>
     have hm:x∈c.args.toList:=by rw[ha];simp
     simp only[h x (by simp at hm ⊢;exact hm)]
   have GJ:(match c.args.toList with|[s,x]=>lh (ev e s)||lh (ev e x) |_=>false)=(match c.args.toList with|[s,x]=>lh (ev e' s)||lh (ev e' x) |_=>false):=by have hm:∀x∈c.args.toList,ev e x=ev e' x:=fun x hx=>h x (by simp at hx ⊢;exact hx);generalize c.args.toList=xs at hm;rcases xs with _|⟨x,_|⟨y,_|⟨z,xs⟩⟩⟩<;>first|rfl|simp only[hm x (by simp),hm y (by simp)]
   cases b<;>first|rfl|exact key|exact GJ
  |_=>simp only[hc]
 |_=>rfl
theorem zrr{e e':Env}(o:Oper)(h:∀x∈o.op.operands,ev e x=ev e' x):tv o e=tv o e':=by
 unfold tv;cases fH:o.op with
 |store t a v=>rw[fH]at h;simp only[acg]at h;simp only[h v (by simp)]
 |_=>rfl
theorem z0r{e e':Env}{hh:H}{k:AV→H→Option X}(o:Oper)(h:∀x∈o.op.operands,ev e x=ev e' x):nV cx o e hh k=nV cx o e' hh k:=by
 unfold nV;cases fH:o.op with
 |lookup t m x b=>rw[fH]at h;simp only[acg]at h;cases b<;>first |rfl |simp only[h m (by simp),h x (by simp)]
 |mapUpdate t m x y=>rw[fH]at h;simp only[acg]at h;simp only[h m (by simp),h x (by simp),h y (by simp)]
 |makeMap t b=>cases b<;>rfl
 |buildSlice t n ps =>rw[fH]at h;simp only[acg,adC,List.mem_map]at h;have h1:∀p∈ps.toList,ev e p.2=ev e' p.2:=fun p hp=>h _ ⟨p,hp,rfl⟩;simp only[VC _ _ h1]
 |load t x=>rw[fH]at h;simp only[acg]at h;simp only[h x (by simp)]
 |store t a v=>rw[fH]at h;simp only[acg]at h;simp only[h a (by simp),h v (by simp)]
 |fieldAddr t x f=>rw[fH]at h;simp only[acg]at h;simp only[h x (by simp)]
 |indexAddr t a v=>rw[fH]at h;simp only[acg]at h;simp only[h a (by simp),h v (by simp)]
 | slice t x lo hi mx =>
  rw[fH]at h;simp only[acg]at h
  have ho:∀(q:Option Operand),(∀y∈q.toArray,ev e y=ev e' y)→q.map (ev e)=q.map (ev e'):=fun q hq=>by
   cases q with
   |none=>rfl
   |some y=>simp[hq y (by simp)]
  have h1:=ho lo (fun y hy=>h y (by simp at hy ⊢;simp[hy]));have h2:=ho hi (fun y hy=>h y (by simp at hy ⊢;simp[hy]));have h3:=ho mx (fun y hy=>h y (by simp at hy ⊢;simp[hy]));simp only[h x (by simp),h1,h2,h3]
 |convert s d x=>rw[fH]at h;simp only[acg]at h;simp only[h x (by simp)]
 | call c =>
  rw[fH]at h;simp only[acg,adl]at h;cases hc:c.callee with
  | builtin b =>
   rw[hc]at h;simp only at h;simp only[hc];have hm:∀x∈c.args.toList,ev e x=ev e' x:=fun x hx=>h x (by simp at hx ⊢;exact hx);generalize c.args.toList=xs at hm;generalize c.argTypes.toList=ts;cases b<;>try rfl
   all_goals
    rcases xs with _|⟨x,_|⟨y,_|⟨z,xs⟩⟩⟩<;>rcases ts with _|⟨t,_|⟨u,_|⟨q,ts⟩⟩⟩<;>first|rfl|(simp only[hm x (by simp)];done) |(simp only[hm x (by simp),hm y (by simp)];done) |(simp only[lY,hm x (by simp),hm y (by simp)];done)
  |_=>simp only[hc]
 |_=>rfl
theorem VD{e e':Env}{hh:H}{k:AV→H→Option X}(o:Oper)(h:∀x∈o.op.operands,ev e x=ev e' x):mK cx O Y o e hh k=mK cx O Y o e' hh k:=by unfold mK;rw[zhe o h,z0r o h,z0q o h]
theorem zwy{e e':Env}{f:AV}{xs:List Operand}(h:∀x∈xs,ev e x=ev e' x):Bz f xs e=Bz f xs e':=by
 unfold Bz;cases f with
 | fn g a b =>
  cases a with
  |cons _ _=>rfl
  | nil =>
   cases b with
   |cons _ _=>rfl
   |nil =>
    cases xs with
    |nil=>rfl
    |cons x xs=>simp only[h x (by simp)]
 |_=>rfl
theorem VE{e e':Env}{p:Nat}(o:Oper)(h:∀x∈o.op.operands,ev e x=ev e' x):gr p o e=gr p o e':=by
 unfold gr;cases fH:o.op with
 |lookup t m x b=>rw[fH]at h;simp only[acg]at h;simp only[h m (by simp)]
 |mapUpdate t m x y=>rw[fH]at h;simp only[acg]at h;simp only[h m (by simp)]
 |load t x=>rw[fH]at h;simp only[acg]at h;simp only[h x (by simp)]
 |store t a v=>rw[fH]at h;simp only[acg]at h;simp only[h a (by simp)]
 |call c =>
  rw[fH]at h;simp only[acg,adl]at h;cases hc:c.callee with
  |value f =>rw[hc]at h;simp only at h;simp only[hc];rw[h f (by simp)];exact zwy fun x hx=>h x (by simp at hx ⊢;exact .inr hx)
  |_=>simp only[hc]
 |_=>rfl
theorem LR{e e':Env}{hh:H}{p:Nat}{k:AV→H→Option X}(o:Oper)(h:∀x∈o.op.operands,ev e x=ev e' x):qa cx p O Y o e hh k=qa cx p O Y o e' hh k:=by
 have h0:=VD (cx:=cx) (O:=O) (Y:=Y) (hh:=hh) (k:=k) o h;unfold qa;cases fH:o.op with
 |alloc t=>rfl
 |box t x=>rw[fH]at h;simp only[acg]at h;simp only[h x (by simp)]
 |_=>exact h0
theorem zjx{e e':Env}(o:Oper)(h:∀x∈o.op.operands,ev e x=ev e' x):ir cx o e=ir cx o e':=by
 unfold ir;cases fH:o.op with
 |binOp op t a v yt=>rw[fH]at h;simp only[acg]at h;simp only[h a (by simp),h v (by simp)]
 |call c =>
  rw[fH]at h;simp only[acg,adl]at h;cases hc:c.callee with
  |value f =>rw[hc]at h;simp only at h;simp only[hc];rw[h f (by simp),GI c.argTypes.toList c.args.toList (fun x hx=>h x (by simp at hx ⊢;exact .inr hx))]
  |_=>simp only[hc]
 |_=>rfl
theorem VF{e e':Env}(o:Oper)(h:∀x∈o.op.operands,ev e x=ev e' x):ku cx o e=ku cx o e':=by unfold ku;rw[zhe o h,zrr o h,zjx o h]
inductive Fx where
 |no |rd (q:Nat) (c:List AV) |wr (q:Nat) (c c':List AV) |tk (t t':List (Option Nat))
def Fx.ok:Fx→H→Prop
 |.no,_=>True
 |.rd q c,h=>h.bx[q]? = some c
 |.wr q c _,h=>h.bx[q]? = some c
 |.tk t _,h=>h.tk=t
def Fx.go:Fx→H→H
 |.no,h=>h
 |.rd _ _,h=>h
 |.wr q _ c',h=>{ h with bx:=h.bx.set q c' }
 |.tk _ t',h=>{ h with tk:=t' }
def cd(tab:Nat→Option TI)(o:Oper):Nat:=match o.op with
 |.load _ _=>1
 |.lookup _ _ _ _=>1
 |.store _ _ _=>2
 |.mapUpdate _ _ _ _=>2
 |.alloc _=>3
 |.box _ _=>3
 |.convert _ d _=>match tab d with
  |some { d:=.slice _,.. }=>4
  |_=>0
 |.makeSlice _ _ _=>4
 |.call c=>match c.callee with
  |.builtin .append=>4
  |.builtin _=>0
  |_=>bif US tab c.argTypes.toList then 5 else 4
 |_=>0
def Fx.fits(tab:Nat→Option TI)(o:Oper)(acc:Option Nat):Fx→Prop
 |.no=>True
 |.rd q _=>acc=some q∧(cd tab o=1∨cd tab o=5)
 |.wr q _ _=>acc=some q∧(cd tab o=2∨cd tab o=3)
 |.tk _ _=>cd tab o=4∨cd tab o=5
def xE(cx:Cx X)(p:Nat)(O:Open X)(Y:Ys)(o:Oper)(e:Env)(h:H)(k:AV→H→Option X)(r:X):Prop:=
 ∃(v:AV)(f:Fx),f.ok h∧k v (f.go h)=some r∧(∀(h2:H)(k2:AV→H→Option X),f.ok h2→fK cx O Y o e h2 k2=k2 v (f.go h2))∧f.fits cx.tab o (gr p o e)
def CR(cx:Cx X)(p:Nat)(O:Open X)(Y:Ys)(o:Oper)(e:Env)(h:H)(k:AV→H→Option X)(r:X):Prop:=
 ∃(v:AV)(f:Fx),f.ok h∧k v (f.go h)=some r∧(∀(h2:H)(k2:AV→H→Option X),f.ok h2→mK cx O Y o e h2 k2=k2 v (f.go h2))∧f.fits cx.tab o (gr p o e)
def adn(cx:Cx X)(p:Nat)(O:Open X)(Y:Ys)(o:Oper)(e:Env)(h:H)(k:AV→H→Option X)(r:X):Prop:=
 ∃(v:AV)(f:Fx),f.ok h∧k v (f.go h)=some r∧(∀(h2:H)(k2:AV→H→Option X),f.ok h2→qa cx p O Y o e h2 k2=k2 v (f.go h2))∧f.fits cx.tab o (gr p o e)
end
end Go.AM
namespace Go.AM
section
variable {X:Type}
theorem zwz{d:TD}{op:BinOp}{x y:AV}{k:AV→Option X}{r:X}(hk:nH d op x y k=some r):∃v,k v=some r∧∀k2:AV→Option X,nH d op x y k2=k2 v:=by
 unfold nH at hk;split at hk
 ·split at hk
  ·rename_i b hb;exact⟨_,hk,fun k2=>by unfold nH;simp only[hb]⟩
  ·cases hk
 ·split at hk
  ·rename_i b hb;exact⟨_,hk,fun k2=>by unfold nH;simp only[hb]⟩
  ·cases hk
 ·cases hc:decide ((_:Int)<0)with
  |true=>rw[hc]at hk;cases hk
  |false=>rw[hc]at hk;exact⟨_,hk,fun k2=>by unfold nH;simp only[hc,cond_false]⟩
 ·cases hc:decide ((_:Int)<0)with
  |true=>rw[hc]at hk;cases hk
  |false=>rw[hc]at hk;exact⟨_,hk,fun k2=>by unfold nH;simp only[hc,cond_false]⟩
 ·rename_i n1 n2 n3 n4;split at hk
  ·rename_i hq;subst hq;cases op with
   |eql=>exact(n1 rfl).elim
   |neq=>exact(n2 rfl).elim
   |shl=>simp at hk
   |shr=>simp at hk
   |quo =>
    simp only at hk;cases hc:(_:Int)==0 with
    |true=>rw[hc]at hk;cases hk
    |false=>rw[hc]at hk;exact⟨_,hk,fun k2=>by unfold nH;simp only[hc,cond_false,if_true]⟩
   |rem =>
    simp only at hk;cases hc:(_:Int)==0 with
    |true=>rw[hc]at hk;cases hk
    |false=>rw[hc]at hk;exact⟨_,hk,fun k2=>by unfold nH;simp only[hc,cond_false,if_true]⟩
   |_=>exact⟨_,hk,fun k2=>by unfold nH;simp only[if_true]⟩
  ·cases hk
 ·have h1:=(zf hk).1;exact⟨_,(zf hk).2,fun k2=>by unfold nH;simp only[h1,cond_true]⟩
 ·exact⟨_,hk,fun k2=>rfl⟩
 ·exact⟨_,hk,fun k2=>rfl⟩
 ·exact⟨_,hk,fun k2=>rfl⟩
 ·exact⟨_,hk,fun k2=>rfl⟩
 ·cases hk
theorem z0s{op:UnOp}{x:AV}{k:AV→Option X}{r:X}(hk:EF op x k=some r):∃v,k v=some r∧∀k2:AV→Option X,EF op x k2=k2 v:=by
 unfold EF at hk;split at hk
 ·exact⟨_,hk,fun k2=>rfl⟩
 ·exact⟨_,hk,fun k2=>rfl⟩
 ·exact⟨_,hk,fun k2=>rfl⟩
 ·cases hk
theorem zmo{sz:Nat}{i:Int}{k:AV→Option X}{q:X}:∀(n:Nat)(j:Int)(r o:Nat),tj sz i n j r o k=some q→∃v,k v=some q∧∀k2:AV→Option X,tj sz i n j r o k2=k2 v
 |0,j,r,o,hk=>by cases hk
 |n + 1,j,r,o,hk=>by
  simp only[tj]at hk;cases hc:(i==j)with
  |true=>rw[hc]at hk;exact⟨_,hk,fun k2=>by simp only[tj,hc,cond_true]⟩
  |false =>rw[hc]at hk;obtain⟨v,h1,h2⟩:=zmo n _ _ _ hk;exact⟨v,h1,fun k2=>by simp only[tj,hc,cond_false];exact h2 k2⟩
theorem zmp{sz:Nat}{i:Int}{k:AV→Option X}{q:X}:∀(n:Nat)(j:Int)(cs:List AV),rU sz i n j cs k=some q→∃v,k v=some q∧∀k2:AV→Option X,rU sz i n j cs k2=k2 v
 |0,j,cs,hk=>by cases hk
 |n + 1,j,cs,hk=>by
  simp only[rU]at hk;cases hc:(i==j)with
  |true=>rw[hc]at hk;exact⟨_,hk,fun k2=>by simp only[rU,hc,cond_true]⟩
  |false =>rw[hc]at hk;obtain⟨v,h1,h2⟩:=zmp n _ _ hk;exact⟨v,h1,fun k2=>by simp only[rU,hc,cond_false];exact h2 k2⟩
theorem zmq{agg:Bool}{sz:Nat}{i:Int}{k:AV→Option X}{r:X}:∀(n:Nat)(j:Int)(cs:List AV),pR agg sz i n j cs k=some r→∃v,k v=some r∧∀k2:AV→Option X,pR agg sz i n j cs k2=k2 v
 |0,j,cs,hk=>by simp[pR]at hk
 | n + 1,j,cs,hk=>by
  simp only[pR]at hk;cases hc:i==j with
  | true =>
   rw[hc]at hk;simp only[cond_true]at hk;split at hk
   ·rename_i c dy;split at hk
    ·rename_i v hv;exact⟨v,hk,fun k2=>by simp only[pR,hc,cond_true,dy,hv]⟩
    ·cases hk
   ·cases hk
  |false =>rw[hc]at hk;obtain⟨v,h1,h2⟩:=zmq n _ _ hk;exact⟨v,h1,fun k2=>by simp only[pR,hc,cond_false];exact h2 k2⟩
theorem zrs{cx:Cx X}{d:TD}{x:AV}{lo hi mx:Option AV}{k:AV→Option X}{r:X}(hk:lH cx d x lo hi mx k=some r):∃v,k v=some r∧∀k2:AV→Option X,lH cx d x lo hi mx k2=k2 v:=by
 unfold lH at hk;split at hk
 ·rename_i l h m hl hh hm;split at hk
  ·split at hk
   ·rename_i s _;cases hs:sub s (l.getD 0) (h.getD s.length)with
    |none=>rw[hs]at hk;cases hk
    |some q=>rw[hs]at hk;exact⟨_,hk,fun k2=>by unfold lH;simp only[hl,hh,hm,hs,acD]⟩
   ·cases hk
  ·rename_i et τ s c;split at hk
   ·rename_i ei fP;have h1:=(zf hk).1;have h2:=(zf hk).2;split at h2
    ·cases hs:sub s (l.getD 0) (h.getD s.length)with
     |none=>rw[hs]at h2;cases h2
     |some q=>rw[hs]at h2;exact⟨_,h2,fun k2=>by unfold lH;simp only[hl,hh,hm,hs,acD,fP,h1,cond_true]⟩
    ·split at h2
     ·rename_i uV;have h3:=(zf h2).1;have h4:=(zf h2).2;cases hs:sub s (l.getD 0) uV with
      |none=>rw[hs]at h4;cases h4
      |some q=>rw[hs]at h4;exact⟨_,h4,fun k2=>by unfold lH;simp only[hl,hh,hm,hs,acD,fP,h1,h3,cond_true]⟩
     ·cases h2
   ·cases hk
  ·cases hk
 ·cases hk
theorem zmr{τ:Ty}{l m:List τ.den}{c:Cap}{bytes:Nat}{h:H}{k:AV→H→Option X}{r:X}(hk:grow τ l m c bytes h k=some r):∃v fh,k v { h with tk:=fh }=some r∧∀(h2:H)(k2:AV→H→Option X),h2.tk=h.tk→grow τ l m c bytes h2 k2=k2 v { h2 with tk:=fh }:=by
 unfold grow at hk;have h1:=(zf hk).1;have h2:=(zf hk).2;split at h2
 ·exact⟨_,_,h2,fun nB k2 e=>by unfold grow;simp only[h1,cond_true,e]⟩
 ·split at h2
  ·rename_i n hn;have h3:=(zf h2).1;have h4:=(zf h2).2;exact⟨_,_,h4,fun nB k2 e=>by unfold grow;simp only[h1,cond_true,e,hn,h3]⟩
  ·cases h2
 ·cases h2
theorem zhf{cx:Cx X}{t:Nat}{s x:AV}{h:H}{k:AV→H→Option X}{r:X}(hk:kq cx t s x h k=some r):∃v fh,k v { h with tk:=fh }=some r∧∀(h2:H)(k2:AV→H→Option X),h2.tk=h.tk→kq cx t s x h2 k2=k2 v { h2 with tk:=fh }:=by
 unfold kq at hk;split at hk
 ·rename_i _ _ _ _ _ _ _ ht;split at hk
  ·rename_i ti gB;split at hk
   ·rename_i τ l c τ' m c' e1 e2;split at hk
    ·rename_i m' hm;have h1:=(zf hk).1;obtain⟨v,fh,g1,g2⟩:=zmr (zf hk).2;exact⟨v,fh,g1,fun h2 k2 e=>by unfold kq;simp only[ht,gB,e1,e2,hm,h1,cond_true];exact g2 h2 k2 e⟩
    ·cases hk
   ·rename_i l c m e1 e2;have h1:=(zf hk).1;obtain⟨v,fh,g1,g2⟩:=zmr (zf hk).2;exact⟨v,fh,g1,fun h2 k2 e=>by unfold kq;simp only[ht,gB,e1,e2,h1,cond_true];exact g2 h2 k2 e⟩
   ·cases hk
  ·cases hk
 ·cases hk
theorem zms{cx:Cx X}{b:Builtin}{ts:List Nat}{args:List AV}{h:H}{k:AV→H→Option X}{r:X}(hk:fg cx b ts args h k=some r) :
 (∃v,k v h=some r∧∀(h2:H)(k2:AV→H→Option X),fg cx b ts args h2 k2=k2 v h2) ∨
 (b = .append∧∃v fh,k v { h with tk:=fh }=some r∧∀(h2:H)(k2:AV→H→Option X),h2.tk=h.tk→fg cx b ts args h2 k2=k2 v { h2 with tk:=fh }):=by
 unfold fg at hk;split at hk
 ·split at hk
  ·split at hk
   ·rename_i ht;exact .inl ⟨_,hk,fun h2 k2=>by unfold fg;simp only[ht]⟩
   ·rename_i ht;split at hk
    ·exact .inl ⟨_,hk,fun h2 k2=>by unfold fg;simp only[ht]⟩
    ·cases hk
   ·rename_i ht;split at hk
    ·exact .inl ⟨_,hk,fun h2 k2=>by unfold fg;simp only[ht]⟩
    ·exact .inl ⟨_,hk,fun h2 k2=>by unfold fg;simp only[ht]⟩
    ·exact .inl ⟨_,hk,fun h2 k2=>by unfold fg;simp only[ht]⟩
    ·cases hk
   ·cases hk
  ·cases hk
 ·right;refine⟨rfl,?_⟩;split at hk
  ·split at hk
   ·rename_i ht;obtain⟨v,fh,g1,g2⟩:=zhf hk;exact⟨v,fh,g1,fun h2 k2 e=>by unfold fg;simp only[ht];exact g2 h2 k2 e⟩
   ·rename_i ht;obtain⟨v,fh,g1,g2⟩:=zhf hk;exact⟨v,fh,g1,fun h2 k2 e=>by unfold fg;simp only[ht];exact g2 h2 k2 e⟩
   ·cases hk
  ·cases hk
 ·split at hk
  ·rename_i hq;exact .inl ⟨_,hk,fun h2 k2=>by unfold fg;simp only[hq,if_true]⟩
  ·cases hk
 ·split at hk
  ·rename_i hq;exact .inl ⟨_,hk,fun h2 k2=>by unfold fg;simp only[hq,if_true]⟩
  ·cases hk
 ·cases hk
theorem ztu{cx:Cx X}{O:Open X}{Y:Ys}{g:Nat}{first cap args:List AV}(hc:((cx.C g).isSome&&(cx.pr g).isNone)=true){h:H}{k:AV→H→Option X}{r:X}(hk:nU cx O Y (.fn g first cap) args h k=some r) :
 ∃v fh,k v { h with tk:=fh }=some r∧∀(h2:H)(k2:AV→H→Option X),h2.tk=h.tk→nU cx O Y (.fn g first cap) args h2 k2=k2 v { h2 with tk:=fh }:=by
 unfold nU at hk;simp only[acf]at hk hc;obtain⟨hc,LU⟩:=hc;have LU:cx.pr g=none:=by simpa using LU
 rw[LU]at hk;simp only at hk;split at hk
 ·rename_i iY GL;have h1:=(zf hk).1;have h2:=(zf hk).2;split at h2
  ·rename_i en Al;cases hy:en.o with
   |none=>rw[hy]at h2;cases h2
   |some y =>rw[hy]at h2;exact⟨_,_,h2,fun nB k2 e=>by unfold nU;simp only[LU,GL,h1,cond_true,Al,hy,acD,e]⟩
  ·cases h2
 ·rename_i hn;rw[hn]at hc;cases hc
end
end Go.AM
namespace Go.AM
section
variable {X:Type} {cx:Cx X} {p:Nat} {O:Open X} {Y:Ys}
theorem xE.pure{o:Oper}{e:Env}{h:H}{k:AV→H→Option X}{r:X}{v:AV}(hk:k v h=some r)(h2:∀(h2:H)(k2:AV→H→Option X),fK cx O Y o e h2 k2=k2 v h2)   : xE cx p O Y o e h k r:=⟨v,.no,trivial,hk,fun h3 k2 _=>h2 h3 k2,trivial⟩
theorem xE.LV{o:Oper}{e:Env}{h:H}{k:AV→H→Option X}{r:X}{v:AV}{fh:List (Option Nat)}(hk:k v { h with tk:=fh }=some r)(h2:∀(h2:H)(k2:AV→H→Option X),h2.tk=h.tk→fK cx O Y o e h2 k2=k2 v { h2 with tk:=fh })
 (hf:cd cx.tab o=4∨cd cx.tab o=5)   : xE cx p O Y o e h k r:=
 ⟨v,.tk h.tk fh,rfl,hk,fun h3 k2 e=>h2 h3 k2 e,hf⟩
theorem zw0{ty:Option Ty}{a:AV}{q off:Nat}(h:Bs ty a = .ref q off):a = .ref q off:=by
 unfold Bs at h;split at h
 ·cases h
 ·unfold kf at h;split at h
  ·split at h<;>cases h
  ·exact h
theorem z3u{F:List AV→List AV→Option AV}{args:List AV}{h:H}{k:AV→H→Option X}{r:X}(hk:Bv (.rd F) args h k=some r):∃q as cs v,args = .ref q 0::as∧h.bx[q]? = some cs∧isRow cs=false∧F cs as=some v∧k v h=some r:=by
 unfold Bv at hk;split at hk<;>rename_i he<;>try cases he
 ·split at hk
  ·rename_i cs dy;rw[zo]at dy;cases lM:isRow cs with
   |true=>rw[lM]at hk;cases hk
   |false =>
    rw[lM,cond_false]at hk;split at hk
    ·rename_i v hv;exact⟨_,_,_,v,rfl,dy,lM,hv,hk⟩
    ·cases hk
  ·cases hk
 ·cases hk
theorem VG {o:Oper} {e:Env} {h:H} {k:AV→H→Option X} {r:X} (mb:gn o=false) (hc:ir cx o e=true) (hk:fK cx O Y o e h k=some r)   : xE cx p O Y o e h k r:=by
 have qG:=hk;unfold fK at hk;split at hk
 ·rename_i x ho;exact .pure hk (fun h2 k2=>by unfold fK;simp only[ho])
 ·rename_i x ho;exact .pure hk (fun h2 k2=>by unfold fK;simp only[ho])
 ·rename_i c x y ho;split at hk
  ·rename_i b hb;cases b with
   |true=>exact .pure hk (fun h2 k2=>by unfold fK;simp only[ho,hb,cond_true])
   |false=>exact .pure hk (fun h2 k2=>by unfold fK;simp only[ho,hb,cond_false])
  ·cases hk
 ·rename_i t ho;unfold gn at mb;simp only[ho]at mb;cases mb
 ·rename_i t x ho;unfold gn at mb;simp only[ho]at mb;cases mb
 ·rename_i t parts ho;split at hk
  ·rename_i ti ht;have h1:=(zf hk).1;have h2:=(zf hk).2;split at h2
   ·rename_i fs hd;split at h2
    ·rename_i cs dy;exact .pure h2 (fun h2 k2=>by unfold fK;simp only[ho,ht,h1,cond_true,hd,dy])
    ·cases h2
   ·rename_i n et hd;split at h2
    ·rename_i ei fP;split at h2
     ·rename_i cs dy;exact .pure h2 (fun h2 k2=>by unfold fK;simp only[ho,ht,h1,cond_true,hd,fP,dy])
     ·cases h2
    ·cases h2
   ·cases h2
  ·cases hk
 ·rename_i t len parts ho;split at hk
  ·rename_i ht;split at hk
   ·rename_i ti fP;split at hk
    ·rename_i τ hτ;split at hk
     ·rename_i l hl;have h1:=(zf hk).1;have h2:=(zf hk).2;exact .pure h2 (fun h2 k2=>by unfold fK;simp only[ho,ht,fP,hτ,hl,h1,cond_true])
     ·cases hk
    ·rename_i hτ;split at hk
     ·rename_i l hl;have h1:=(zf hk).1;have h2:=(zf hk).2;exact .pure h2 (fun h2 k2=>by unfold fK;simp only[ho,ht,fP,hτ,hl,h1,cond_true])
     ·cases hk
   ·cases hk
  ·cases hk
 ·rename_i t x ho;split at hk
  ·rename_i ti ht;split at hk
   ·rename_i v hv;cases hx:ev e x with
    | ref q off =>
     rw[hx]at hv;have BM:=hv;simp only[mZ,zo]at BM;split at BM
     ·rename_i cs dy;refine⟨v,.rd q cs,dy,hk,fun h3 k2 e3 => ?_,⟨?_,?_⟩⟩
      ·have e3:h3.bx[q]? = some cs:=e3;have hl:mZ ti (.ref q off) h3=some v:=by simp only[mZ,zo,e3];exact BM
       unfold fK;simp only[ho,ht,hx,hl];rfl
      ·unfold gr;simp only[ho,hx]
      ·left;unfold cd;simp only[ho]
     ·cases BM
    |iM cs =>rw[hx]at hv;have hl:∀h3,mZ ti (.iM cs) h3=some v:=fun h3=>hv;exact .pure hk (fun h3 k2=>by unfold fK;simp only[ho,ht,hx,hl])
    |_=>rw[hx]at hv;simp[mZ]at hv
   ·cases hk
  ·cases hk
 ·rename_i t x y ho;split at hk
  ·rename_i ti ht;split at hk
   ·rename_i h' hs;cases hx:ev e x with
    | ref q off =>
     rw[hx]at hs;simp only[mE,zo,zk]at hs;have s1:=(zf hs).1;have s2:=(zf hs).2;split at s2
     ·rename_i cs dy;cases lM:isRow cs with
      |true=>rw[lM]at s2;cases s2
      |false =>
      rw[lM,cond_false]at s2;split at s2
      ·rename_i ij GM;simp only[acj]at s2;subst s2;refine⟨.cr [],.wr q cs ij,dy,hk,fun h3 k2 e3 => ?_,⟨?_,?_⟩⟩
       ·have e3:h3.bx[q]? = some cs:=e3;have hl:mE ti (.ref q off) (kf ti.ty (ev e y)) h3=some { h3 with bx:=h3.bx.set q ij }:=by simp only[mE,zo,e3,zk,s1,cond_true,lM,cond_false,GM]
        unfold fK;simp only[ho,ht,hx,hl];rfl
       ·unfold gr;simp only[ho,hx]
       ·left;unfold cd;simp only[ho]
      ·cases s2
     ·cases s2
    |_=>rw[hx]at hs;simp[mE]at hs
   ·cases hk
  ·cases hk
 ·rename_i x ho;split at hk
  ·rename_i hq;exact .pure hk (fun h2 k2=>by unfold fK;simp only[ho,hq])
  ·rename_i hq;exact .pure hk (fun h2 k2=>by unfold fK;simp only[ho,hq])
  ·rename_i hq;exact .pure hk (fun h2 k2=>by unfold fK;simp only[ho,hq])
  ·rename_i hq;exact .pure hk (fun h2 k2=>by unfold fK;simp only[ho,hq])
  ·cases hk
 ·rename_i op t x y yt ho;split at hk
  ·rename_i b c hb hc;split at hk
   ·rename_i ht;split at hk
    ·exact .pure hk (fun h2 k2=>by unfold fK;simp only[ho,hb,hc,ht])
    ·exact .pure hk (fun h2 k2=>by unfold fK;simp only[ho,hb,hc,ht])
    ·cases hk
   ·cases hk
  ·rename_i τ l c hb EY;exfalso;unfold ir at hc;simp only[ho,hb,EY]at hc;cases hc
  ·rename_i aS bs hb hc;split at hk
   ·rename_i ti c ht qC;have h1:=(zf hk).1;have h2:=(zf hk).2;split at h2
    ·exact .pure h2 (fun h2 k2=>by unfold fK;simp only[ho,hb,hc,ht,qC,h1,cond_true])
    ·exact .pure h2 (fun h2 k2=>by unfold fK;simp only[ho,hb,hc,ht,qC,h1,cond_true])
    ·cases h2
   ·cases hk
  ·rename_i n1 n3 n2;obtain⟨v,g1,g2⟩:=zwz hk;refine .pure g1 (fun h2 k2 => ?_);unfold fK;simp only[ho];have g3:=g2 fun v=>k2 v h2;clear hk g2;revert n1 n3 n2;generalize ev e x=xv at g3 ⊢;generalize ev e y=yv at g3 ⊢;intro n1 n3 n2;cases xv<;>cases yv<;>first|exact g3|exact(n1 _ _ rfl rfl).elim|exact(n2 _ _ rfl rfl).elim|exact(n3 _ _ _ rfl rfl).elim
 ·rename_i op t x ho;obtain⟨v,g1,g2⟩:=z0s hk;exact .pure g1 (fun h2 k2=>by unfold fK;simp only[ho];exact g2 _)
 ·rename_i s d x ho;split at hk
  ·rename_i hs hd hx;exact .pure hk (fun h2 k2=>by unfold fK;simp only[ho,hs,hd,hx])
  ·rename_i hs hd hx;exact .pure hk (fun h2 k2=>by unfold fK;simp only[ho,hs,hd,hx])
  ·rename_i hs hd hx;split at hk
   ·rename_i sK;exact .pure hk (fun h2 k2=>by unfold fK;simp only[ho,hs,hd,hx,sK])
   ·cases hk
  ·rename_i hs hd hx;split at hk
   ·rename_i sK;exact .LV hk (fun h2 k2 e=>by unfold fK;simp only[ho,hs,hd,hx,sK,e]) (by left;unfold cd;simp only[ho,hd])
   ·cases hk
  ·cases hk
 ·rename_i t m x ho;simp[ir,ho]at hc
 ·rename_i t l c ho;split at hk
  ·rename_i hs;split at hk
   ·rename_i sK;split at hk
    ·rename_i jd hl hc;obtain⟨hb,hk⟩:=zf hk;exact .LV hk (fun h2 k2 e=>by unfold fK;simp only[ho,hs,sK,jd,hl,hc,e,hb,cond_true]) (by left;unfold cd;simp only[ho])
    ·cases hk
   ·cases hk
  ·cases hk
 ·rename_i f first cap ho
  exact .pure hk (fun h2 k2=>by unfold fK;simp only[ho])
 ·rename_i t x lo hi mx ho;split at hk
  ·rename_i ti ht;obtain⟨v,g1,g2⟩:=zrs hk;exact .pure g1 (fun h2 k2=>by unfold fK;simp only[ho,ht];exact g2 _)
  ·cases hk
 ·rename_i t x f ho;split at hk
  ·rename_i ht;split at hk
   ·rename_i off ft hn;split at hk
    ·rename_i fi oG;have h1:=(zf hk).1;have h2:=(zf hk).2;split at h2
     ·rename_i hx;exact .pure h2 (fun h2 k2=>by unfold fK;simp only[ho,ht,hn,oG,h1,cond_true,hx])
     ·rename_i hx;exact .pure h2 (fun h2 k2=>by unfold fK;simp only[ho,ht,hn,oG,h1,cond_true,hx])
     ·cases h2
    ·cases hk
   ·cases hk
  ·cases hk
 ·rename_i t x f ho;split at hk
  ·rename_i ht;split at hk
   ·rename_i off ft hn;split at hk
    ·rename_i fi cs oG dy;split at hk
     ·rename_i ds oB;split at hk
      ·rename_i v hv;exact .pure hk (fun h2 k2=>by unfold fK;simp only[ho,ht,hn,oG,dy,oB,hv])
      ·cases hk
     ·cases hk
    ·cases hk
   ·cases hk
  ·cases hk
 ·rename_i t x i ho;split at hk
  ·rename_i ht;split at hk
   ·rename_i ti fP;split at hk
    ·rename_i τ l c q n eW je;have h1:=(zf hk).1;have h2:=(zf hk).2;cases nj:idx l n with
     |none=>rw[nj]at h2;cases h2
     |some el =>rw[nj]at h2;exact .pure h2 (fun h2 k2=>by unfold fK;simp only[ho,ht,fP,eW,je,h1,cond_true,nj,acD])
    ·rename_i n cs q i' eW je;have h1:=(zf hk).1;have h2:=(zf hk).2;obtain⟨v,g1,g2⟩:=zmp _ _ _ h2;exact .pure g1 (fun h2 k2=>by unfold fK;simp only[ho,ht,fP,eW,je,h1,cond_true];exact g2 _)
    ·cases hk
   ·cases hk
  ·rename_i ht;split at hk
   ·rename_i ti fP;split at hk
    ·rename_i r0 o0 q n eW je;obtain⟨v,g1,g2⟩:=zmo _ _ _ _ hk;exact .pure g1 (fun h2 k2=>by unfold fK;simp only[ho,ht,fP,eW,je];exact g2 _)
    ·cases hk
   ·cases hk
  ·cases hk
 ·rename_i t x i ho;split at hk
  ·rename_i s q n eW je;split at hk
   ·rename_i ht;cases nj:idx s n with
    |none=>rw[nj]at hk;cases hk
    |some el =>rw[nj]at hk;exact .pure hk (fun h2 k2=>by unfold fK;simp only[ho,eW,je,ht,nj,acD])
   ·cases hk
  ·rename_i cs q n eW je;split at hk
   ·rename_i ht;split at hk
    ·rename_i ei fP;obtain⟨v,g1,g2⟩:=zmq _ _ _ hk;exact .pure g1 (fun h2 k2=>by unfold fK;simp only[ho,eW,je,ht,fP];exact g2 _)
    ·cases hk
   ·cases hk
  ·cases hk
 ·rename_i t i ho;split at hk
  ·rename_i vs iz;split at hk
   ·rename_i v hv;exact .pure hk (fun h2 k2=>by unfold fK;simp only[ho,iz,hv])
   ·cases hk
  ·cases hk
 ·rename_i c ho;split at hk
  ·rename_i b hb;rcases zms hk with⟨v,g1,g2⟩ |⟨rfl,v,fh,g1,g2⟩
   ·exact .pure g1 (fun h2 k2=>by unfold fK;simp only[ho,hb];exact g2 h2 k2)
   ·exact .LV g1 (fun h2 k2 e=>by unfold fK;simp only[ho,hb];exact g2 h2 k2 e) (by left;unfold cd;simp only[ho,hb])
  ·rename_i f hf;unfold ir at hc;simp only[ho,hf]at hc;split at hc
   ·rename_i g first cap tP
    rw[tP]at hk;rw[Bool.or_eq_true]at hc;rcases hc with hc|hc
    rotate_left
    ·simp only[acf,List.isEmpty_iff]at hc;obtain⟨VH,rfl,rfl,hrk⟩:=hc;have hk5:cd cx.tab o=5:=by unfold cd;simp only[ho,hf,hrk,cond_true]
     obtain⟨F,GN⟩:∃F,cx.pr g=some (.rd F):=by
      unfold NC at VH;split at VH
      ·rename_i F hF;exact⟨F,hF⟩
      ·cases VH
     have xF:uM cx (.fn g [] []) (lY cx e c.argTypes.toList c.args.toList)=false:=by unfold uM;simp[GN]
     unfold sx at hk;rw[xF,cond_false]at hk;unfold nU at hk;simp only[GN]at hk;have l9:Bv (.rd F) ([]++lY cx e c.argTypes.toList c.args.toList++[]) h k=some r:=hk;rw[adD,adp]at l9;obtain⟨q,as,cs,v,nh,jf,lM,hF,hkv⟩:=z3u l9;have hac:gr p o e=some q:=by
      unfold gr Bz;simp only[ho,hf,tP];cases hl:c.args.toList with
      |nil=>rw[hl]at nh;cases nh
      |cons x xs =>
       rw[hl]at nh;unfold lY at nh;split at nh
       ·simp only[acE]at nh;have:=zw0 nh.1;simp only[this]
       ·simp only[acE]at nh;simp only[nh.1]
     refine⟨v,.rd q cs,jf,hkv,fun h3 k2 e3 => ?_,⟨hac,.inr hk5⟩⟩;have e3:h3.bx[q]? = some cs:=e3;unfold fK sx;simp only[ho,hf,tP,xF,cond_false];unfold nU;simp only[GN];show Bv (.rd F) ([]++lY cx e c.argTypes.toList c.args.toList++[]) h3 k2=_;rw[adD,adp,nh];show(match nth h3.bx q with
      |some cs=>bif isRow cs then none else match F cs as with
       |some v=>k2 v h3
       |none=>none
      |none=>none)=_
     rw[zo,e3];simp only[lM,cond_false,hF];rfl
    have oC:=hc;simp only[acf,Bool.not_eq_true']at oC;have xF:uM cx (.fn g first cap) (lY cx e c.argTypes.toList c.args.toList)=false:=by unfold uM;rw[oC.2.2];rfl
    unfold sx at hk;rw[xF,cond_false]at hk;obtain⟨v,fh,g1,g2⟩:=ztu (by rw[oC.1,oC.2.1];rfl) hk;exact .LV g1 (fun h2 k2 e=>by unfold fK sx;simp only[ho,hf,tP,xF,cond_false];exact g2 h2 k2 e) (by unfold cd;simp only[ho,hf];cases US cx.tab c.argTypes.toList<;>simp)
   ·cases hc
  ·cases hk
 ·cases hk
theorem CR.pure{o:Oper}{e:Env}{h:H}{k:AV→H→Option X}{r:X}{v:AV}(hk:k v h=some r)(h2:∀(h2:H)(k2:AV→H→Option X),mK cx O Y o e h2 k2=k2 v h2):CR cx p O Y o e h k r:=⟨v,.no,trivial,hk,fun h3 k2 _=>h2 h3 k2,trivial⟩
theorem VI{o:Oper}{e:Env}{h:H}{k:AV→H→Option X}{r:X}(mb:gn o=false)(hc:ku cx o e=true)(hk:mK cx O Y o e h k=some r):CR cx p O Y o e h k r:=by
 cases hr:gG cx o e with
 |false =>
  have hX:∀(h2:H)(k2:AV→H→Option X),mK cx O Y o e h2 k2=fK cx O Y o e h2 k2:=fun h2 k2=>by unfold mK;rw[hr,cond_false]
  unfold ku at hc;rw[hr,cond_false]at hc;rw[hX]at hk;obtain⟨v,f,h1,h2,h3,h4⟩:=VG (p:=p) mb hc hk;exact⟨v,f,h1,h2,fun h2 k2 ho=>by rw[hX];exact h3 h2 k2 ho,h4⟩
 | true =>
  have hX:∀(h2:H)(k2:AV→H→Option X),mK cx O Y o e h2 k2=nV cx o e h2 k2:=fun h2 k2=>by unfold mK;rw[hr,cond_true]
  unfold ku at hc;rw[hr,cond_true]at hc;rw[hX]at hk;unfold tv at hc;split at hc
  ·rename_i t m x b ho;unfold nV at hk;cases b with
   |false=>simp only[ho]at hk;cases hk
   | true =>
    simp only[ho]at hk;obtain⟨hm,hk⟩:=zf hk;split at hk
    ·rename_i rr s wA CP;split at hk
     ·rename_i l jf;rw[zo]at jf;unfold js at hk;have go:∀(h3:H)(k3:AV→H→Option X),h3.bx[rr]? = some [.mp l]→mK cx O Y o e h3 k3=js l s (fun v=>k3 (.cr [.int .i64 v,.bool true]) h3) (k3 (.cr [.any,.bool false]) h3):=fun h3 k3 e3=>by rw[hX];unfold nV;simp only[ho,hm,cond_true,wA,CP,zo,e3]
      cases hg:jb l s with
      |none =>
       rw[hg]at hk;refine⟨.cr [.any,.bool false],.rd rr [.mp l],jf,hk,fun h3 k3 e3 => ?_,⟨?_,?_⟩⟩
       ·rw[go h3 k3 e3];unfold js;rw[hg];rfl
       ·unfold gr;simp only[ho,wA]
       ·left;unfold cd;simp only[ho]
      |some v =>
       rw[hg]at hk;refine⟨.cr [.int .i64 v,.bool true],.rd rr [.mp l],jf,hk,fun h3 k3 e3 => ?_,⟨?_,?_⟩⟩
       ·rw[go h3 k3 e3];unfold js;rw[hg];rfl
       ·unfold gr;simp only[ho,wA]
       ·left;unfold cd;simp only[ho]
     ·cases hk
    ·cases hk
  ·rename_i t m x y ho;unfold nV at hk;simp only[ho]at hk;obtain⟨hm,hk⟩:=zf hk;split at hk
   ·rename_i rr s n wA CP Vv;split at hk
    ·rename_i l jf;rw[zo]at jf;refine⟨.cr [],.wr rr [.mp l] [.mp (gZ l s n)],jf,by rw[zk]at hk;exact hk,fun h3 k3 e3 => ?_,⟨?_,.inl ?_⟩⟩
     ·rw[hX];unfold nV;have e3':h3.bx[rr]? = some [.mp l]:=e3;simp only[ho,hm,cond_true,wA,CP,Vv,zo,e3',zk];rfl
     ·unfold gr;simp only[ho,wA]
     ·unfold cd;simp only[ho]
    ·cases hk
   ·cases hk
  ·rename_i t x ho;unfold nV at hk;simp only[ho]at hk;split at hk
   ·rename_i ti ht;split at hk
    ·rename_i rr v i off τ eW;obtain⟨l,hq,hk,bX⟩:=jw hk;obtain⟨el,lO,hk⟩:=acS.1 hk;split at hk
     ·rename_i cs dy;split at hk
      ·rename_i av Gy;refine⟨av,.rd rr [.row v τ l],hq,hk,fun h3 k2 e3 => ?_,⟨?_,?_⟩⟩
       ·rw[hX];unfold nV;simp only[ho,ht,eW];rw[bX h3 _ e3];simp only[lO,acD,dy,Gy];rfl
       ·unfold gr;simp only[ho,eW]
       ·left;unfold cd;simp only[ho]
      ·cases hk
     ·cases hk
    ·cases hk
   ·cases hk
  ·rename_i t x y ho;unfold nV at hk;simp only[ho]at hk;split at hk
   ·rename_i ti ht;have Vs:lh (ev e y)=false:=by
     cases hm:lh (ev e y)with
     |false=>rfl
     |true=>rw[hm]at hc;cases hc
    split at hk
    ·rename_i rr v i off τ eW;have c1:=(zf hk).1;have hk:=(zf hk).2;obtain⟨l,hq,hk,bX⟩:=jw hk;obtain⟨el,lO,hk⟩:=acS.1 hk;split at hk
     ·rename_i ds oB;split at hk
      ·rename_i z hz;simp only[zk]at hk;refine⟨.cr [],.wr rr [.row v τ l] [.row v τ (l.set i.toNat z)],hq,hk,fun h3 k2 e3 => ?_,⟨?_,?_⟩⟩
       ·rw[hX];unfold nV;simp only[ho,ht,eW,c1,cond_true];rw[bX h3 _ e3];simp only[lO,acD,oB,hz,zk];rfl
       ·unfold gr;simp only[ho,eW]
       ·left;unfold cd;simp only[ho]
      ·cases hk
     ·cases hk
    ·rename_i c_;exfalso;unfold gG at hr;simp only[ho,Vs,Bool.or_false]at hr;cases eW:ev e x<;>rw[eW]at hr<;>first|(cases hr;done) |exact c_ _ _ _ _ _ eW
   ·cases hk
  ·rename_i t x f ho;unfold nV at hk;simp only[ho]at hk;split at hk
   ·rename_i ht;split at hk
    ·rename_i off ft hn;split at hk
     ·rename_i fi oG;have c1:=(zf hk).1;have hk:=(zf hk).2;split at hk
      ·rename_i eW;exact .pure hk (fun h2 k2=>by rw[hX];unfold nV;simp only[ho,ht,hn,oG,c1,cond_true,eW])
      ·cases hk
     ·cases hk
    ·cases hk
   ·cases hk
  ·rename_i t x i ho;unfold nV at hk;simp only[ho]at hk;split at hk
   ·rename_i ht;split at hk
    ·rename_i ti gB;split at hk
     ·rename_i eW je;have c1:=(zf hk).1;have hk:=(zf hk).2;exact .pure hk (fun h2 k2=>by rw[hX];unfold nV;simp only[ho,ht,gB,eW,je,c1,cond_true])
     ·cases hk
    ·cases hk
   ·cases hk
  ·rename_i c ho;split at hc
   ·rename_i hb;unfold nV at hk;simp only[ho,hb]at hk;split at hk
    ·rename_i t x rK has;split at hk
     ·rename_i ht;split at hk
      ·rename_i eW;exact .pure hk (fun h2 k2=>by rw[hX];unfold nV;simp only[ho,hb,rK,has,ht,eW])
      ·cases hk
     ·cases hk
    ·cases hk
   ·cases hc
  ·cases hc
theorem LW{q:Nat}{cs:List AV}{h:H}{k:AV→H→Option X}{r:X}(hk:uN q cs h k=some r):h.bx[q]? = some hole∧k (.ref q 0) { h with bx:=h.bx.set q cs }=some r ∧
 ∀(h2:H)(k2:AV→H→Option X),h2.bx[q]? = some hole→uN q cs h2 k2=k2 (.ref q 0) { h2 with bx:=h2.bx.set q cs }:=by
 unfold uN at hk;rw[zo]at hk;split at hk
 ·rename_i c hc;obtain⟨h1,hk⟩:=zf hk;have:c=hole:=by
   unfold isHole at h1;split at h1
   ·rfl
   ·cases h1
  subst this;rw[zk]at hk;refine⟨hc,hk,fun h2 k2 h3 => ?_⟩;unfold uN;rw[zo,h3];simp only[zk];rfl
 ·cases hk
theorem VJ{o:Oper}(h:gn o=false)(e:Env)(hh:H)(k:AV→H→Option X):qa cx p O Y o e hh k=mK cx O Y o e hh k:=by unfold gn at h;unfold qa;cases ho:o.op<;>rw[ho]at h<;>first|rfl|cases h
theorem NJ{o:Oper}{e:Env}{h:H}{k:AV→H→Option X}{r:X}(hc:ku cx o e=true)(hk:qa cx p O Y o e h k=some r):adn cx p O Y o e h k r:=by
 cases mb:gn o with
 |false =>rw[VJ mb]at hk;obtain⟨v,f,h1,h2,h3,h4⟩:=VI (p:=p) mb hc hk;exact⟨v,f,h1,h2,fun h2 k2 ho=>by rw[VJ mb];exact h3 h2 k2 ho,h4⟩
 | true =>
  unfold gn at mb;split at mb
  ·rename_i t ho;unfold qa at hk;simp only[ho]at hk;split at hk
   ·rename_i ti ht;have h1:=(zf hk).1;have hk:=(zf hk).2;obtain⟨q1,q2,q3⟩:=LW hk;refine⟨.ref p 0,.wr p hole ti.zero,q1,q2,fun h2 k2 e2 => ?_,?_,?_⟩
    ·unfold qa;simp only[ho,ht,h1,cond_true];exact q3 h2 k2 e2
    ·unfold gr;simp only[ho]
    ·unfold cd;simp only[ho];simp
   ·cases hk
  ·rename_i t x ho;unfold qa at hk;simp only[ho]at hk;split at hk
   ·rename_i ti ht;have h1:=(zf hk).1;have hk:=(zf hk).2;obtain⟨q1,q2,q3⟩:=LW hk;refine⟨.ref p 0,.wr p hole (cellsOf (kf ti.ty (ev e x))),q1,q2,fun h2 k2 e2 => ?_,?_,?_⟩
    ·unfold qa;simp only[ho,ht,h1,cond_true];exact q3 h2 k2 e2
    ·unfold gr;simp only[ho]
    ·unfold cd;simp only[ho];simp
   ·cases hk
  ·cases mb
end
end Go.AM
namespace Go.AM
section
variable {X:Type} {cx:Cx X} {O:Open X} {Y:Ys}
def eO(e e':Env):Prop:=∀t,get e t=get e' t
theorem eO.ev{e e':Env}(h:eO e e')(x:Operand):ev e x=ev e' x:=by
 cases x with
 |tmp t=>exact h t
 |_=>rfl
theorem eO.refl(e:Env):eO e e:=fun _=>rfl
theorem eO.symm{e e':Env}(h:eO e e'):eO e' e:=fun t=>(h t).symm
theorem eO.trans{a b c:Env}(h:eO a b)(k:eO b c):eO a c:=fun t=>(h t).trans (k t)
def fR(e:Env)(d:Option Nat)(v:AV):Env:=match d with
 |none=>e
 |some d=>(d,v)::e
theorem GO(d:Nat)(v:AV)(e:Env)(t:Nat):get ((d,v)::e) t=if d=t then v else get e t:=by
 simp only[get];by_cases h:d=t
 ·subst h;simp
 ·rw[if_neg h];have:ac9 d t=false:=by
   cases hb:ac9 d t
   ·rfl
   ·exact absurd (Nat.eq_of_beq_eq_true hb) h
  rw[this];rfl
theorem lx(e:Env)(d:Option Nat)(v:AV)(t:Nat):get (fR e d v) t=if d=some t then v else get e t:=by
 cases d with
 |none=>simp[fR]
 |some d=>simp only[fR,GO,acj]
theorem eO.fR{e e':Env}(h:eO e e')(d:Option Nat)(v:AV):eO (fR e d v) (fR e' d v):=fun t=>by rw[lx,lx,h t]
theorem GQ{N:Nat}{e:Env}{d:Option Nat}{v:AV}{k:Env→Option X}{r:X}(h:put N e d v k=some r):(∀t,d=some t→t<N)∧k (fR e d v)=some r:=by
 cases d with
 |none=>exact⟨fun t h=>(by cases h),h⟩
 |some d =>obtain⟨h1,h2⟩:=zf h;exact⟨fun t ht=>by cases ht;exact eV.1 h1,h2⟩
theorem GR{N:Nat}{e:Env}{d:Option Nat}{v:AV}{k:Env→Option X}(h:∀t,d=some t→t<N):put N e d v k=k (fR e d v):=by
 cases d with
 |none=>rfl
 |some d=>simp only[put,eV.2 (h d rfl),cond_true,fR]
def push(i:Nat)(en:Option Nat)(acc:List (Nat×Nat)):List (Nat×Nat):=match en with
 |none=>acc
 |some q=>(i,q)::acc
def gI(conf:List (Nat×Nat))(i:Nat)(en:Option Nat)(acc:List (Nat×Nat)):Prop:=∀q,en=some q→jR conf i q acc=false
theorem jH{conf:List (Nat×Nat)}{i q:Nat}:∀{acc:List (Nat×Nat)},jR conf i q acc=false↔∀p∈acc,q=p.2→dx p.1 i conf=false∧dx i p.1 conf=false
 |[]=>by simp[jR]
 | (j,q')::acc=>by
  simp only[jR,Bool.or_eq_false_iff,jH (acc:=acc),adw,forall_eq_or_imp,Bool.and_eq_false_iff];constructor
  ·rintro ⟨h1,h2⟩
   refine⟨fun e => ?_,h2⟩;rcases h1 with h1|h1
   ·rw[show q=q' from e,b_.2 rfl]at h1;cases h1
   ·exact h1
  ·rintro ⟨h1,h2⟩
   refine⟨?_,h2⟩;by_cases e:q=q'
   ·exact .inr (h1 e)
   ·left;cases hb:ac9 q q'
    ·rfl
    ·exact absurd (b_.1 hb) e
theorem gI.less{conf:List (Nat×Nat)}{i:Nat}{en:Option Nat}{acc iu:List (Nat×Nat)}(h:gI conf i en acc)(hs:∀p∈iu,p∈acc):gI conf i en iu:=fun q hq=>jH.2 fun p hp e=>jH.1 (h q hq) p (hs p hp) e
section
variable {conf:List (Nat×Nat)} {N nb:Nat} {ops:Array Oper}
theorem zqk{p i:Nat}{o:Oper}{e:Env}{h:H}{acc:List (Nat×Nat)}{k:Env→H→List (Nat×Nat)→Option X}{r:X}(hk:qy cx conf O N Y p i o e h acc k=some r) :
 ∃(v:AV)(f:Fx),f.ok h∧f.fits cx.tab o (gr p o e)∧gI conf i (gr p o e) acc∧k (fR e o.dst v) (f.go h) (push i (gr p o e) acc)=some r ∧
  ∀(e2:Env)(h2:H)(lP:List (Nat×Nat))(k2:Env→H→List (Nat×Nat)→Option X),(∀x∈o.op.operands,ev e2 x=ev e x)→f.ok h2→gI conf i (gr p o e) lP→qy cx conf O N Y p i o e2 h2 lP k2=k2 (fR e2 o.dst v) (f.go h2) (push i (gr p o e) lP):=by
 unfold qy at hk;obtain⟨hc,hk⟩:=zf hk;split at hk
 ·rename_i q hq;cases gU:jR conf i q acc with
  |true=>rw[gU]at hk;cases hk
  |false =>rw[gU]at hk;simp only[cond_false]at hk;obtain⟨v,f,h1,h2,h3,h4⟩:=NJ (p:=p) hc hk;obtain⟨hd,h2⟩:=GQ h2;refine⟨v,f,h1,h4,fun q' sI=>(by rw[hq]at sI;cases sI;exact gU),by rw[hq];exact h2,fun e2 nB lP k2 he cb hn => ?_⟩;unfold qy;rw[VF (cx:=cx) o he,hc,VE o he,hq];simp only[cond_true,hn q hq,cond_false];rw[LR o he,h3 nB _ cb,GR hd];rfl
 ·rename_i hq;obtain⟨v,f,h1,h2,h3,h4⟩:=NJ (p:=p) hc hk;obtain⟨hd,h2⟩:=GQ h2;refine⟨v,f,h1,h4,fun q' sI=>(by rw[hq]at sI;cases sI),by rw[hq];exact h2,fun e2 nB lP k2 he cb hn => ?_⟩;unfold qy;rw[VF (cx:=cx) o he,hc,VE o he,hq];simp only[cond_true];rw[LR o he,h3 nB _ cb,GR hd];rfl
def rE(cx:Cx X)(O:Open X)(Y:Ys)(conf:List (Nat×Nat))(N nb:Nat)(ops:Array Oper)(i:Nat)(o:Oper)(e:Env)(v:AV)(f:Fx)(en:Option Nat):Prop:=
 ∀(e2:Env)(h2:H)(lP:List (Nat×Nat))(k2:Env→H→List (Nat×Nat)→Option X),(∀t∈o.looksAt ops,get e2 t=get e t)→f.ok h2→gI conf i en lP →
  ∃e3,eO e3 e2∧jt cx conf O N Y nb ops.toList i o e2 h2 lP k2=k2 (fR e3 o.dst v) (f.go h2) (push i en lP)
theorem VK{o:Oper}{e e2:Env}(h:∀t∈o.looksAt ops,get e2 t=get e t):∀x∈o.op.operands,ev e2 x=ev e x:=fun x hx=>by
 cases x with
 |tmp t =>refine h t ?_;simp only[Oper.looksAt,adG,List.mem_filterMap];exact .inl ⟨.tmp t,by simpa using hx,rfl⟩
 |_=>rfl
theorem zmu{j d:Nat}(h:qx ops.toList j=some d):(ops[j]?).bind (·.dst)=some d:=by
 unfold qx at h;rw[zo]at h;split at h
 ·rename_i o ho;have:ops[j]? = some o:=by simpa using ho
  rw[this];exact h
 ·cases h
theorem VL{i:Nat}{o:Oper}{e:Env}{h:H}{acc:List (Nat×Nat)}{k:Env→H→List (Nat×Nat)→Option X}{r:X}(hk:jt cx conf O N Y nb ops.toList i o e h acc k=some r) :
 ∃(v:AV)(f:Fx)(en:Option Nat),f.ok h∧f.fits cx.tab o en∧gI conf i en acc∧(∃e1,eO e1 e∧k (fR e1 o.dst v) (f.go h) (push i en acc)=some r)∧rE cx O Y conf N nb ops i o e v f en:=by
 have qG:=hk;unfold jt at hk;split at hk
 ·rename_i hg;obtain⟨v,f,h1,h2,h3,h4,h5⟩:=zqk hk;refine⟨v,f,_,h1,h2,h3,⟨e,.refl e,h4⟩,fun e2 h2 lP k2 he cb hn=>⟨e2,.refl e2,?_⟩⟩;unfold jt;rw[hg];exact h5 e2 h2 lP k2 (VK he) cb hn
 ·rename_i j w hg;split at hk
  ·rename_i d hd;split at hk
   ·rename_i b hb;have Am:d∈o.looksAt ops:=by simp only[Oper.looksAt,hg,adG];exact .inr (by rw[zmu hd];simp)
    have same:∀{c:Bool}{e2:Env},get e2 d = .bool c→eO ((d,.bool c)::e2) e2:=fun{c e2} h t=>by
     rw[GO];split
     ·rename_i e;subst e;exact h.symm
     ·rfl
    have nh:∀{c:Bool}{e2:Env},get e2 d = .bool c→∀x,ev ((d,.bool c)::e2) x=ev e2 x:=fun h x=>(same h).ev x
    have run:b=w→qy cx conf O N Y (nb+gX ops.toList i) i o ((d,.bool w)::e) h acc k=some r→(∃(v:AV)(f:Fx)(en:Option Nat),f.ok h∧f.fits cx.tab o en∧gI conf i en acc∧(∃e1,eO e1 e∧k (fR e1 o.dst v) (f.go h) (push i en acc)=some r)∧rE cx O Y conf N nb ops i o e v f en):=fun tQ hk=>by
     subst tQ;obtain⟨v,f,h1,h2,h3,h4,h5⟩:=zqk hk;have goal:∃(v:AV)(f:Fx)(en:Option Nat),f.ok h∧f.fits cx.tab o en∧gI conf i en acc∧(∃e1,eO e1 e∧k (fR e1 o.dst v) (f.go h) (push i en acc)=some r)∧rE cx O Y conf N nb ops i o e v f en:=by refine⟨v,f,_,h1,h2,h3,⟨_,same hb,h4⟩,fun e2 h2 lP k2 he cb hn => ?_⟩;have ly:get e2 d = .bool b:=(he d Am).trans hb;refine⟨_,same ly,?_⟩;have h6:=h5 ((d,.bool b)::e2) h2 lP k2 (fun x hx=>by rw[nh ly,nh hb];exact VK he x hx) cb hn;unfold jt;rw[hg];simp only[hd,ly];cases b<;>exact h6
     exact goal
    have pass:b = !w→(put N ((d,.bool (!w))::e) o.dst (.cr []) fun e=>k e h acc)=some r→(∃(v:AV)(f:Fx)(en:Option Nat),f.ok h∧f.fits cx.tab o en∧gI conf i en acc∧(∃e1,eO e1 e∧k (fR e1 o.dst v) (f.go h) (push i en acc)=some r)∧rE cx O Y conf N nb ops i o e v f en):=fun tQ hk=>by
     obtain⟨GU,hk⟩:=GQ hk;have goal:∃(v:AV)(f:Fx)(en:Option Nat),f.ok h∧f.fits cx.tab o en∧gI conf i en acc∧(∃e1,eO e1 e∧k (fR e1 o.dst v) (f.go h) (push i en acc)=some r)∧rE cx O Y conf N nb ops i o e v f en:=by refine⟨.cr [],.no,none,trivial,trivial,fun q hq=>(by cases hq),⟨_,same (by rw[hb,tQ]),hk⟩,fun e2 h2 lP k2 he cb hn => ?_⟩;have ly:get e2 d = .bool (!w):=(he d Am).trans (by rw[hb,tQ]);refine⟨_,same ly,?_⟩;unfold jt;rw[hg];simp only[hd,ly];cases w<;>simp only[Bool.not_false,Bool.not_true,cond_true,cond_false]<;>exact GR GU
     exact goal
    cases w<;>cases b<;>simp only[cond_true,cond_false]at hk
    ·exact run rfl hk
    ·exact pass rfl hk
    ·exact pass rfl hk
    ·exact run rfl hk
   ·rename_i vs hb;obtain⟨GU,hk⟩:=GQ hk;have Am:d∈o.looksAt ops:=by simp only[Oper.looksAt,hg,adG];exact .inr (by rw[zmu hd];simp)
    refine⟨.cr [],.no,none,trivial,trivial,fun q hq=>(by cases hq),⟨e,.refl e,hk⟩,fun e2 h2 lP k2 he cb hn=>⟨e2,.refl e2,?_⟩⟩;have ly:get e2 d = .cr vs:=(he d Am).trans hb;unfold jt;rw[hg];simp only[hd,ly];exact GR GU
   ·cases hk
  ·cases hk
def Ins(k:Env→H→Option X):Prop:=∀e e' h,eO e e'→k e h=k e' h
theorem qg{i:Nat}(hi:dx i i conf=false)(o:Oper)(e:Env)(h:H)(acc:List (Nat×Nat))(k:Env→H→List (Nat×Nat)→Option X):sA cx conf O N Y nb ops.toList i o e h acc k=jt cx conf O N Y nb ops.toList i o e h acc k:=by unfold sA;rw[hi];rfl
theorem GV{i:Nat}(hi:dx i i conf=true)(o:Oper)(e:Env)(h:H)(acc:List (Nat×Nat))(k:Env→H→List (Nat×Nat)→Option X):sA cx conf O N Y nb ops.toList i o e h acc k=BA cx conf O N Y i o e h acc k:=by unfold sA;rw[hi];rfl
theorem ziu{J:Env→Prop}{k1 k2:Env→H→List (Nat×Nat)→Option X}{i:Nat}{o:Oper}(hJ:∀e v,J e→J (fR e o.dst v))(hJ':∀e e',eO e e'→J e→J e')(hk:∀e e' h acc,J e→eO e e'→k1 e h acc=k2 e' h acc){e e':Env}(he:eO e e')(hj:J e)(h:H)(acc:List (Nat×Nat)) :
 sA cx conf O N Y nb ops.toList i o e h acc k1=sA cx conf O N Y nb ops.toList i o e' h acc k2:=by
 have pt:∀(e e':Env)(v:AV)(h:H)(acc:List (Nat×Nat)),J e→eO e e'→(put N e o.dst v fun e=>k1 e h acc)=put N e' o.dst v fun e=>k2 e h acc:=by
  intro e e' v h acc hj he;have An:=hJ e v hj;have BN:=he.fR o.dst v;revert An BN;cases o.dst with
  |none=>exact fun An BN=>hk e e' h acc hj he
  |some d =>
   intro An BN;simp only[put];cases Nat.blt d N with
   |false=>rfl
   |true=>exact hk _ _ h acc An BN
 have go : ∀(e e':Env),J e→eO e e'→qy cx conf O N Y (nb+gX ops.toList i) i o e h acc k1=qy cx conf O N Y (nb+gX ops.toList i) i o e' h acc k2:=by
  intro e e' hj he;unfold qy;rw[VF o (fun x _=>he.ev x),VE o (fun x _=>he.ev x)];cases ku cx o e' with
  |false=>rfl
  | true =>
   simp only[cond_true];split
   ·cases jR conf i _ acc with
    |true=>rfl
    |false =>simp only[cond_false];rw[LR o (fun x _=>he.ev x)];congr 1;funext v h;exact pt _ _ _ _ _ hj he
   ·rw[LR o (fun x _=>he.ev x)];congr 1;funext v h;exact pt _ _ _ _ _ hj he
 cases hi:dx i i conf with
 |true =>
  rw[GV hi,GV hi];unfold BA;cases hg:o.guard with
  |none =>simp only;rw[VD o (fun x _=>he.ev x)];congr 1;funext v h';rw[pt _ _ _ _ _ hj he]
  |some g=>rfl
 | false =>
  rw[qg hi,qg hi];unfold jt;split
  ·exact go e e' hj he
  ·split
   ·rename_i d hd;rw[←he d];split
    ·rename_i b hb;have hc:∀v,eO ((d,v)::e) ((d,v)::e'):=fun v=>he.fR (some d) v
     have qC:∀c,b=c→J ((d,.bool c)::e):=fun c hbc=>hJ' e _ (fun t=>by
      rw[GO];split
      ·rename_i e1;subst e1;rw[hb,hbc]
      ·rfl) hj
     split<;>cases b<;>simp only[cond_true,cond_false]<;>first|exact go _ _ (qC _ rfl) (hc _) |exact pt _ _ _ _ _ (qC _ rfl) (hc _)
    ·exact pt _ _ _ _ _ hj he
    ·rfl
   ·rfl
theorem uX{k:Env→H→Option X}(hk:Ins k):∀(os:List (Nat×Oper))(e e':Env)(h:H)(acc:List (Nat×Nat)),eO e e'→gm cx conf O N Y nb ops.toList os e h acc k=gm cx conf O N Y nb ops.toList os e' h acc k
 |[],e,e',h,acc,he=>hk e e' h he
 |(i,o)::os,e,e',h,acc,he=>by simp only[gm];exact ziu (J:=fun _=>True) (fun _ _ _=>trivial) (fun _ _ _ _=>trivial) (fun e e' h acc _ he=>uX hk os e e' h acc he) he trivial h acc
theorem ztv{i q:Nat}{acc iu:List (Nat×Nat)}(h:∀p,p∈acc↔p∈iu):jR conf i q acc=jR conf i q iu:=by
 have key:∀{a b:List (Nat×Nat)},(∀p,p∈b→p∈a)→jR conf i q a=false→jR conf i q b=false:=fun hs h0=>jH.2 fun p hp=>jH.1 h0 p (hs p hp);cases h1:jR conf i q acc with
 |false=>exact(key (fun p hp=>(h p).2 hp) h1).symm
 |true =>
  cases h2:jR conf i q iu with
  |true=>rfl
  |false=>rw[key (fun p hp=>(h p).1 hp) h2]at h1;cases h1
theorem xG{i:Nat}{h h':H}{k:Option X}{r:X}:∀{acc:List (Nat×Nat)},nW conf i h h' acc k=some r↔(∀p∈acc,dx p.1 i conf=true→nth h.bx p.2=nth h'.bx p.2)∧k=some r
 |[]=>by simp[nW]
 | (j,q)::acc=>by
  simp only[nW,adw,forall_eq_or_imp];cases hc:dx j i conf with
  |false=>simp only[cond_false,xG (acc:=acc)];simp
  |true =>
   simp only[cond_true,lZ];by_cases e:nth h.bx q=nth h'.bx q
   ·rw[if_pos e,xG (acc:=acc)];simp[e]
   ·rw[if_neg e];simp[e]
theorem ztw{i:Nat}{h h':H}{k:Option X}{acc iu:List (Nat×Nat)}(hm:∀p,p∈acc↔p∈iu):nW conf i h h' acc k=nW conf i h h' iu k:=by apply Option.ext;intro r;show nW conf i h h' acc k=some r↔nW conf i h h' iu k=some r;rw[xG,xG];exact⟨fun⟨a,b⟩=>⟨fun p hp=>a p ((hm p).2 hp),b⟩,fun⟨a,b⟩=>⟨fun p hp=>a p ((hm p).1 hp),b⟩⟩
theorem zmv{k:Env→H→Option X}:∀(os:List (Nat×Oper))(e:Env)(h:H)(acc iu:List (Nat×Nat)),(∀p,p∈acc↔p∈iu)→gm cx conf O N Y nb ops.toList os e h acc k=gm cx conf O N Y nb ops.toList os e h iu k
 |[],e,h,acc,iu,_=>rfl
 | (i,o)::os,e,h,acc,iu,hm=>by
  have ih:=fun e h acc iu hm=>zmv (k:=k) os e h acc iu hm;have hp:∀(q:Nat×Nat) p,p∈q::acc↔p∈q::iu:=fun q p=>by simp[hm p]
  have pt:∀(e:Env)(d:Option Nat)(v:AV)(h:H),(put N e d v fun e=>gm cx conf O N Y nb ops.toList os e h acc k)=put N e d v fun e=>gm cx conf O N Y nb ops.toList os e h iu k:=fun e d v h=>by congr 1;funext e;exact ih e h _ _ hm
  have go:∀e,qy cx conf O N Y (nb+gX ops.toList i) i o e h acc (fun e h acc=>gm cx conf O N Y nb ops.toList os e h acc k)=qy cx conf O N Y (nb+gX ops.toList i) i o e h iu fun e h acc=>gm cx conf O N Y nb ops.toList os e h acc k:=fun e=>by
   unfold qy;split
   ·rename_i q hq;rw[ztv hm];congr 3;funext v h;congr 1;funext e;exact ih e h _ _ (hp _)
   ·congr 2;funext v h;exact pt _ _ _ _
  simp only[gm];cases hi:dx i i conf with
  |true =>
   rw[GV hi,GV hi];unfold BA;cases hg:o.guard with
   |none =>simp only;congr 1;funext v h';rw[ztw hm,pt]
   |some g=>rfl
  | false =>
   rw[qg hi,qg hi];unfold jt;split
   ·exact go e
   ·split
    ·split
     ·simp only[go,pt]
     ·exact pt _ _ _ _
     ·rfl
    ·rfl
end
end
end Go.AM
namespace Go.AM
mutual
theorem AV.beq_eq:∀a b:AV,a.beq b=true→a=b
 |.any,b,h=>by cases b<;>simp_all[AV.beq]
 |.bool x,b,h=>by cases b<;>simp_all[AV.beq]
 |.int _ _,b,h=>by cases b<;>simp_all[AV.beq]
 |.str _,b,h=>by cases b<;>simp_all[AV.beq]
 |.sl _ _ _,b,h=>by cases b<;>simp_all[AV.beq]
 |.fe,b,h=>by cases b<;>simp_all[AV.beq]
 |.agg _,b,h=>by cases b<;>simp_all[AV.beq]
 |.cr _,b,h=>by cases b<;>simp_all[AV.beq]
 |.fX,b,h=>by cases b<;>simp_all[AV.beq]
 |.ref _ _,b,h=>by cases b<;>simp_all[AV.beq]
 |.iM _,b,h=>by cases b<;>simp_all[AV.beq]
 |.bl,b,h=>by cases b<;>simp_all[AV.beq]
 |.fn f x y,b,h=>by
  cases b with
  |fn g p q =>simp only[AV.beq,acf,b_]at h;rw[h.1.1,LX x p h.1.2,LX y q h.2]
  |_=>simp[AV.beq]at h
 |.yield _,b,h=>by cases b<;>simp_all[AV.beq]
 |.err _,b,h=>by cases b<;>simp_all[AV.beq]
 |.gp n x,b,h=>by
  cases b with
  |gp m y =>simp only[AV.beq,acf,b_]at h;rw[h.1,LX x y h.2]
  |_=>simp[AV.beq]at h
 |.ea _ _,b,h=>by cases b<;>simp_all[AV.beq]
 |.gq _,b,h=>by cases b<;>simp_all[AV.beq]
 |.wq _,b,h=>by cases b<;>simp_all[AV.beq]
theorem LX:∀a b:List AV,qw a b=true→a=b
 |[],b,h=>by cases b<;>simp_all[qw]
 |a :: aS,b,h=>by
  cases b with
  |nil=>simp[qw]at h
  |cons b bs =>simp only[qw,acf]at h;rw[AV.beq_eq a b h.1,LX aS bs h.2]
end
theorem Cap.beq_eq(a b:Cap)(h:a.beq b=true):a=b:=by cases a<;>cases b<;>simp_all[Cap.beq]
theorem zks{τ τ':Ty}{l:List τ'.den}{r:List τ.den}(h:gW τ' τ l=some r)(c:Cap):AV.sl τ r c=AV.sl τ' l c:=by
 unfold gW at h;split at h
 ·rename_i hb;obtain rfl:=Ty.beq_eq _ _ hb;simp only[acj]at h;subst h;rfl
 ·cases h
mutual
theorem SV.tR:∀(s:SV)(a:AV)(x:s.den),s.dec a=some x→s.enc x=a
 | .int k,a,x,h=>by
  simp only[SV.dec]at h;split at h
  ·rename_i k' n;split at h
   ·rename_i e;subst e;simp only[acj]at h;subst h;rfl
   ·cases h
  ·cases h
 |.bool,a,x,h=>by
  simp only[SV.dec]at h;split at h
  ·simp only[acj]at h;subst h;rfl
  ·cases h
 |.str,a,x,h=>by
  simp only[SV.dec]at h;split at h
  ·simp only[acj]at h;subst h;rfl
  ·cases h
 |.sl τ c,a,x,h=>by
  simp only[SV.dec]at h;split at h
  ·have h2:=(zf h).2;have hc:=Cap.beq_eq _ _ (zf h).1;simp only[SV.enc];rw[←hc];exact zks h2 _
  ·cases h
 |.err,a,x,h=>by
  simp only[SV.dec]at h;split at h
  ·simp only[acj]at h;subst h;rfl
  ·cases h
 |.const v,a,x,h=>by simp only[SV.dec]at h;obtain⟨hc,h⟩:=zf h;simp only[SV.enc];exact AV.beq_eq _ _ hc
 |.agg vs,a,x,h=>by
  simp only[SV.dec]at h;split at h
  ·simp only[SV.enc];rw[uY vs _ x h]
  ·cases h
 | .fn f p q,a,x,h=>by
  simp only[SV.dec]at h;split at h
  ·have h1:=(zf h).1;have h2:=(zf h).2;split at h2
   ·rename_i y hy;split at h2
    ·rename_i z hz;simp only[acj]at h2;subst h2;simp only[SV.enc];rw[uY p _ y hy,uY q _ z hz,b_.1 h1]
    ·cases h2
   ·cases h2
  ·cases h
 |.mp,a,x,h=>by
  simp only[SV.dec]at h;split at h
  ·simp only[acj]at h;subst h;rfl
  ·cases h
 | .row τ,a,x,h=>by
  simp only[SV.dec]at h;split at h
  ·rename_i v τ' l;split at h
   ·rename_i l' hl;simp only[acj]at h;subst h;simp only[SV.enc];unfold gW at hl;split at hl
    ·rename_i hb;obtain rfl:=Ty.beq_eq _ _ hb;simp only[acj]at hl;subst hl;rfl
    ·cases hl
   ·cases h
  ·cases h
 |.ms r τ,a,x,h=>by
  simp only[SV.dec]at h;split at h
  ·obtain⟨h1,h2⟩:=zf h;simp only[acf,b_]at h1;obtain⟨e1,e2⟩:=h1;obtain rfl:=Ty.beq_eq _ _ e2;simp only[acj]at h2;subst h2 e1;rfl
  ·cases h
theorem uY:∀(vs:List SV)(cs:List AV)(x:sdenL vs),oW vs cs=some x→kl vs x=cs
 |[],cs,x,h=>by
  simp only[oW]at h;split at h
  ·rfl
  ·cases h
 | v :: vs,cs,x,h=>by
  simp only[oW]at h;split at h
  ·split at h
   ·rename_i a ha;split at h
    ·rename_i b hb;simp only[acj]at h;subst h;simp only[kl];rw[SV.tR v _ a ha,uY vs _ b hb]
    ·cases h
   ·cases h
  ·cases h
end
theorem VM:∀(vs:List (Nat×SV))(cs:Env)(x:sdenE vs),uJ vs cs=some x→w5 vs x=cs
 |[],cs,x,h=>by
  simp only[uJ]at h;split at h
  ·rfl
  ·cases h
 | v :: vs,cs,x,h=>by
  simp only[uJ]at h;split at h
  ·rename_i c e;obtain⟨hd,h⟩:=zf h;simp only[b_]at hd;split at h
   ·rename_i a ha;split at h
    ·rename_i b hb;simp only[acj]at h;subst h;simp only[w5];rw[SV.tR v.2 _ a ha,VM vs _ b hb,hd]
    ·cases h
   ·cases h
  ·cases h
theorem zkt:∀(vs:List (List SV))(cs:List (List AV))(x:sdenB vs),w_ vs cs=some x→zP vs x=cs
 |[],cs,x,h=>by
  simp only[w_]at h;split at h
  ·rfl
  ·cases h
 | v :: vs,cs,x,h=>by
  simp only[w_]at h;split at h
  ·split at h
   ·rename_i a ha;split at h
    ·rename_i b hb;simp only[acj]at h;subst h;simp only[zP];rw[uY v _ a ha,zkt vs _ b hb]
    ·cases h
   ·cases h
  ·cases h
theorem VN:∀(vs:List Bool)(cs:List (Option Nat))(x:sdenT vs),su vs cs=some x→uF vs x=cs
 |[],cs,x,h=>by
  simp only[su]at h;split at h
  ·rfl
  ·cases h
 | true::vs,cs,x,h=>by
  simp only[su]at h;split at h
  ·split at h
   ·rename_i b hb;simp only[acj]at h;subst h;simp only[uF];rw[VN vs _ b hb]
   ·cases h
  ·cases h
 |false::vs,cs,x,h=>by
  simp only[su]at h;split at h
  ·simp only[uF];rw[VN vs _ x h]
  ·cases h
theorem LS.beq_eq(a b:LS)(h:a.beq b=true):a=b:=by
 cases a with
 |ready=>cases b<;>simp_all[LS.beq]
 |busy=>cases b<;>simp_all[LS.beq]
 |done i =>
  cases b with
  |done j=>cases i<;>cases j<;>simp_all[LS.beq,b_]
  |_=>simp[LS.beq]at h
theorem zmw:∀a b:List LS,uK a b=true→a=b
 |[],b,h=>by cases b<;>simp_all[uK]
 |a :: aS,b,h=>by
  cases b with
  |nil=>simp[uK]at h
  |cons b bs =>simp only[uK,acf]at h;rw[LS.beq_eq a b h.1,zmw aS bs h.2]
theorem zku:∀(vs:List (Nat×Nat×Nat×List (Nat×SV)))(cs:Ys)(x:sdenY vs),xb vs cs=some x→zQ vs x=cs
 |[],cs,x,h=>by
  simp only[xb]at h;split at h
  ·rfl
  ·cases h
 | v :: vs,cs,x,h=>by
  simp only[xb]at h;split at h
  ·rename_i c e;obtain⟨hd,h⟩:=zf h;simp only[b_,acf]at hd;split at h
   ·rename_i a ha;split at h
    ·rename_i b hb;simp only[acj]at h;subst h;simp only[zQ];rw[VM v.2.2.2 _ a ha,zku vs _ b hb,hd.1.1,hd.1.2,hd.2]
    ·cases h
   ·cases h
  ·cases h
theorem Shape.tR{s:Shape}{Y:Ys}{e:Env}{h:H}{x:s.den}(hd:s.dec Y e h=some x):s.e x=e∧s.h x=h∧s.y x=Y:=by
 unfold Shape.dec at hd;split at hd
 ·rename_i a ha;split at hd
  ·rename_i b hb;split at hd
   ·rename_i c hc;obtain⟨hl,hd⟩:=zf hd;split at hd
    ·rename_i d hy;simp only[acj]at hd;subst hd;refine⟨VM _ _ _ ha,?_,zku _ _ _ hy⟩;simp only[Shape.h];rw[zkt _ _ _ hb,VN _ _ _ hc,zmw _ _ hl]
    ·cases hd
   ·cases hd
  ·cases hd
 ·cases hd
end Go.AM
namespace Go.AM
open Go.RowKit
section
variable {P:Program} {w:World} {G:GS}
def my(P:Program)(g:FuncId)(aj:Array Value)(w:World)(R:Value→World→Prop):Prop:=
 ((callFunc g aj).run P w = .ok (.enter g aj) w∧CallsIn acP 0 P g aj w (fun|.returned v,w'=>R v w' |_,_=>False))∨∃v w',(callFunc g aj).run P w = .ok (.value v) w'∧R v w'
theorem my.mono{g:FuncId}{aj:Array Value}{R S:Value→World→Prop}(h:my P g aj w R)(hRS:∀v w',R v w'→S v w'):my P g aj w S:=by
 rcases h with⟨h1,h2⟩ |⟨v,w',h1,h2⟩
 ·refine .inl ⟨h1,adr (F:=acP) (n:=0) h2 ?_⟩;intro e w' hR;cases e with
  |returned v=>exact hRS v w' hR
  |panicked ch=>exact hR.elim
  |outgrown=>exact hR.elim
 ·exact .inr ⟨v,w',h1,hRS v w' h2⟩
def sM(T:Nat)(p:Value):List PanicEntry:=[{ v:=.iface T (.agg #[p]),recovered:=false }]
def sN{X:Type}(B0:Nat)(w0:Wd)(G:GS)(w:World)(k:AV→H→Option X)(r:X):Ending→World→Prop
 |.returned v,w'=>Ends B0 w0 G w k r v w'
 |_,_=>False
def Ao{X:Type}(B0:Nat)(w0:Wd)(T q:Nat)(G:GS)(w:World)(k:AV→H→Option X)(r:X):Ending→World→Prop
 |.returned v,w'=>Ends B0 w0 G w k r v w'
 |.panicked ch,w'=>∃(b:Nat)(G':GS)(h':H),ch=sM T (.pointer (some ⟨b,0,none⟩))∧(G.bx[q]? = some (some b)∨G.bx[q]? = some none)∧Ext G.base G G'∧bg G.D w w'∧St B0 w0 G' h' w'∧k (.cr []) h'=some r
 |_,_=>False
def jg(P:Program)(W:World→Prop)(g:Nat):Pr→Prop
 |.th T=>∀(w:World)(b:Nat)(vs:Array Value),W w→w.heap[b]? = some (.cells vs T (0,0))→vs.size=2→(vs[0]? = some (.pointer none)∨vs[0]? = some (.pointer (some ⟨b,0,none⟩))) →
  my P g #[.pointer (some ⟨b,0,none⟩)] w fun v w'=>v = .tuple #[]∧(w'=w∨w.grownBy w' (some b)∧w'.heap[b]? = some (.cells (vs.setIfInBounds 0 (.pointer (some ⟨b,0,none⟩))) T (0,0)))
 |.qu T E=>∀(w:World)(b q cap:Nat)(vs cur:Array Value)(l:List UInt8),W w→l≠[]→l.length≤ai→w.heap[b]? = some (.cells vs T (0,0))→vs.size=2→vs[1]? = some (.slice (some ⟨q,0,none⟩) l.length cap) →
  w.heap[q]? = some (.cells cur E (0,0))→l.length≤cap→cur.size=cap→cur.toList.take l.length=l.map (fun x=>Value.int .u8 (x.toNat:Int)) →
  my P g #[.pointer (some ⟨b,0,none⟩)] w fun v w'=>v = .string ⟨l.toArray⟩∧w.grownBy w' (some q)∧∀o,w'.cell? ⟨q,o,none⟩=w.cell? ⟨q,o,none⟩
 |.sort τ f F=>(∀(w:World)(q cap:Nat)(t:TypeId)(cs:Array Value)(l:List τ.den)(D:Nat→Nat→Prop),W w→w.heap[q]? = some (.cells cs t (0,0))→cs.size=cap*τ.size→l.length≤cap→l.length<ai →
  bf (fun x us=>al w D τ x us) l (cs.toList.take (l.length*τ.size))→(∀o,¬D q o)→(∀b o,D b o→∃u,w.cell? ⟨b,o,none⟩=some u)→(F l).length=l.length →
  my P g #[.slice (some ⟨q,0,none⟩) l.length cap,.func (.func f) #[] #[]] w fun v w'=>v = .tuple #[]∧∃ij,w.grownBy w' (some q)∧w'.heap[q]? = some (.cells ij t (0,0))∧ij.size=cs.size∧bf (fun x us=>al w D τ x us) (F l) (ij.toList.take (l.length*τ.size))) ∧
  ∀(w:World)(A:Option Addr),W w→my P g #[.slice A 0 0,.func (.func f) #[] #[]] w fun v w'=>v = .tuple #[]∧w.grownBy w' none
 |.yX es=>∀(w:World),W w→my P g #[] w fun v w'=>v = .map (some w.heap.size)∧∃c,w'=w.alloc (.map (nI es) c)
 |.rd F=>∀(w:World)(G:GS)(b:Nat)(vs:Array Value)(t:TypeId)(cs as:List AV)(us:List Value)(v:AV),W w→w.heap[b]? = some (.cells vs t (0,0))→ak w G vs.toList cs→ak w G us as→F cs as=some v →
  my P g (.pointer (some ⟨b,0,none⟩)::us).toArray w fun x w'=>w.grownBy w' none∧af w' G x v
 | .Br T=>∀(w:World)(b:Nat)(vs:Array Value)(t:TypeId)(x y:Value)(c i:Int)(tr:Bool),W w→w.heap[b]? = some (.cells vs t (0,0))→vs.toList=[x,y,.int .i64 c,.int .i64 i,.bool tr] →
  (callFunc g #[.pointer (some ⟨b,0,none⟩)]).run P w = .ok (.enter g #[.pointer (some ⟨b,0,none⟩)]) w∧CallsIn acP 0 P g #[.pointer (some ⟨b,0,none⟩)] w fun e w'=>w'=w ∧
   e=(if(tr && !(c==0&&i==0))=true then .panicked (sM T (.pointer (some ⟨b,0,none⟩)))else .returned (.tuple #[]))
 | .vM T=>∀(X:Type)(B0:Nat)(w0:Wd)(G:GS)(h:H)(w:World)(aj:Array Value)(l:List UInt8)(c:Cap)(f:Nat)(first cap:List AV)(k:AV→H→Option X)(r:X),(∀w',Below B0 w0.w w'→W w')→l.length≤70368744177664→St B0 w0 G h w→ak w G aj.toList [.sl .u8 l c,.fn f first cap] →
  (∀(G1:GS)(w1:World)(vs:Array Value),Ext G.base G G1→bg G.D w w1→St B0 w0 G1 { h with bx:=h.bx++zU h.bx.length l } w1→ak w1 G1 vs.toList (first++[.ref (h.bx.length+3) 0]++cap) →
   (callFunc f vs).run P w1 = .ok (.enter f vs) w1∧CallsIn acP 0 P f vs w1 (Ao B0 w0 T (h.bx.length+3) G1 w1 (fun _ h'=>wT h.bx.length h' k) r)) →
  (callFunc g aj).run P w = .ok (.enter g aj) w∧CallsIn acP 0 P g aj w (sN B0 w0 G w k r)
theorem jg.mono{W W':World→Prop}(hw:∀w,W' w→W w){g:Nat}{p:Pr}(h:jg P W g p):jg P W' g p:=by
 cases p with
 |th T=>exact fun w b vs h1=>h w b vs (hw w h1)
 |qu T E=>exact fun w b q cap vs cur l h1=>h w b q cap vs cur l (hw w h1)
 |sort τ f F=>exact⟨fun w q cap t cs l D h1=>h.1 w q cap t cs l D (hw w h1),fun w A h1=>h.2 w A (hw w h1)⟩
 |yX es=>exact fun w h1=>h w (hw w h1)
 |rd F=>exact fun w G b vs t cs as us v h1=>h w G b vs t cs as us v (hw w h1)
 |Br T=>exact fun w b vs t x y c i tr h1=>h w b vs t x y c i tr (hw w h1)
 |vM T=>exact fun X B0 w0 G h' w aj l c f first cap k r h1=>h X B0 w0 G h' w aj l c f first cap k r (fun w' hb=>hw w' (h1 w' hb))
theorem zql{D:Nat→Nat→Prop}{E:Nat}:∀{l:List UInt8}{us:List Value},bf (fun(x:UInt8) us=>al w D (.iX E) x us) l us→us=l.map fun b => .int .u8 (b.toNat:Int)
 |[],us,h=>h
 |b::l,us,h=>by obtain⟨v1,v2,rfl,h1,h2⟩:=h;simp only[al]at h1;rw[h1,zql h2];rfl
theorem VO{B0:Nat}{w0:Wd}{h:H}(s:St B0 w0 G h w){v:Value}{r:Nat}(hv:af w G v (.ref r 0)){cs:List AV}(hc:h.bx[r]? = some cs)(hr:isRow cs=false) :
 ∃b vs t,v = .pointer (some ⟨b,0,none⟩)∧G.bx[r]? = some (some b)∧B0≤b∧w.heap[b]? = some (.cells vs t (0,0))∧(G.bv r).v=0∧ak w G vs.toList cs∧∀T,iQ cs=some T→t=T:=by
 cases hv with
 |ref _ _ b hb qF =>obtain⟨hB,ob,hh,hO⟩:=s.box r b cs hb hc;obtain⟨vs,t,rfl,h0,hl,ht⟩:=hO.list hr;exact⟨b,vs,t,rfl,hb,hB,hh,h0,hl,ht⟩
theorem ztx{X:Type}{B0:Nat}{w0:Wd}{h:H}(s:St B0 w0 G h w){g:Nat}{p:Pr}(hP:jg P (Below B0 w0.w) g p){args:List AV}{aj:Array Value}(hv:ak w G aj.toList args){k:AV→H→Option X}{r:X}(hk:Bv p args h k=some r) :
 my P g aj w (Ends B0 w0 G w k r):=by
 unfold Bv at hk;split at hk
 ·
  rename_i T q;obtain⟨v,jh,hq⟩:=hv.one;have kG:aj=#[v]:=acG (by simpa using jh);subst kG;split at hk
  ·rename_i r' T' c2 jf;rw[zo]at jf;replace hk:=zf hk;obtain⟨hc,hk⟩:=hk;simp only[acf,b_]at hc;obtain⟨rfl,rfl⟩:=hc;obtain⟨b,vs,t,rfl,hb,hB,hh,h0,hl,ht⟩:=VO s hq jf rfl;have ht:=ht T rfl;subst ht;obtain⟨u1,u2,iz,ju,gh⟩:=hl.two;have dz:vs.size=2:=by rw[←acr,iz];rfl
   have qF:vs[0]? = some u1:=by rw[←acq,iz];rfl
   have yF:vs[1]? = some u2:=by rw[←acq,iz];rfl
   have LY:u1 = .pointer none∨u1 = .pointer (some ⟨b,0,none⟩):=by
    cases ju with
    |ea _ _ b' _ kz _ hp =>rw[hb]at kz;obtain rfl:=ach (ach kz);exact hp
   refine(hP w b vs s.below hh dz (by rcases LY with e|e<;>rw[qF,e]<;>simp)).mono ?_
   rintro v w' ⟨rfl,rfl|⟨hg,kA⟩⟩
   ·exact Ends.same s (.cr #[] [] rfl (fun i v c h=>by simp at h)) hk
   ·have sF:(vs.setIfInBounds 0 (.pointer (some ⟨b,0,none⟩))).toList=[.pointer (some ⟨b,0,none⟩),u2]:=by rw[Array.toList_setIfInBounds,iz];rfl
    obtain⟨gC,gQ⟩:=s.wU (ds:=[.ea q t,c2]) hb hh hB (by simp) hg kA (fun gC=>by rw[sF];have hx:Ext G.base G G:=Ext.refl (cF.le_refl _);have hL:ak w' G [.pointer (some ⟨b,0,none⟩),u2] [.ea q t,c2]:=.cons (.ea q t b _ hb h0 (.inr rfl)) (.cons (gh.mono hx gC) .nil);exact .box _ _ hL.oZ h0 hL) (fun T' h=>by simp only[iQ,acj]at h;exact h);have tS:dF h.bx q [.ea q t,c2]=h.bx:=by
     rw[zk];apply adf;intro i;rw[acn];by_cases hi:q=i
     ·subst hi;rw[if_pos rfl,jf,if_pos (ab9.1 jf).1]
     ·rw[if_neg hi]
    rw[tS]at gQ;exact⟨_,G,h,Ext.refl (cF.le_refl _),gC,gQ,.cr #[] [] rfl (fun i v c h=>by simp at h),hk⟩
  ·cases hk
 ·
  rename_i T E q;obtain⟨v,jh,hq⟩:=hv.one;have kG:aj=#[v]:=acG (by simpa using jh);subst kG;split at hk
  ·rename_i r' T' q' v' n' E' jf;rw[zo]at jf;replace hk:=zf hk;obtain⟨hc,hk⟩:=hk;simp only[acf,b_]at hc;obtain⟨⟨rfl,rfl⟩,rfl⟩:=hc;obtain⟨l,bX,hk,_⟩:=jw hk;cases k7:List.isEmpty l with
   |true=>rw[k7]at hk;cases hk
   |false =>
   rw[k7,cond_false]at hk;have c_:l≠[]:=by intro e;rw[e]at k7;cases k7
   have oA:0<l.length:=List.length_pos_iff.2 c_;obtain⟨b,vs,t,rfl,hb,hB,hh,h0,hl,ht⟩:=VO s hq jf rfl;have ht:=ht T rfl;subst ht;obtain⟨u1,u2,iz,ju,gh⟩:=hl.two;have dz:vs.size=2:=by rw[←acr,iz];rfl
   have yF:vs[1]? = some u2:=by rw[←acq,iz];rfl
   obtain⟨qq,cap,R⟩:=s.rowAt bX (ET gh);obtain⟨e1,A,e2,hA⟩:=R.ms gh;rcases R.wh with⟨_,e,_⟩ |⟨bq,cur,tq,e,VP,CS,dy,CT⟩
   ·exact absurd e c_
   have htq:tq=E:=by have:=R.tg bq cur tq e CS;simp only[oX]at this;exact(Nat.eq_of_beq_eq_true this).symm
   subst htq;have xA:=hA bq e;subst xA;have GM:cur.size=cap:=by rw[dy];exact Nat.mul_one cap
   have xH:cur.toList.take l.length=l.map (fun(x:UInt8)=>Value.int .u8 (x.toNat:Int)):=by have:=zql CT;rw[show l.length*(Ty.iX tq).size=l.length from Nat.mul_one _]at this;exact this
   refine(hP w b bq cap vs cur l s.below c_ R.lm hh dz (by rw[yF,e2]) CS R.lc GM xH).mono ?_
   rintro v w' ⟨rfl,hg,fp⟩
   obtain⟨G1,x1,s1,_,hG1,hT1⟩:=s.freeze bX gh;have EZ:G.bx[q']? = some (some bq):=by rw[R.hb,e]
   have CU:=(ab9.1 EZ).1
   have xq:some bq∉G1.bx:=fun hm=>by
    obtain⟨i,hi⟩:=acH hm;rw[hG1,acn]at hi;split at hi
    ·simp[CU]at hi
    ·rename_i adF;exact adF (s.inj q' i bq EZ hi)
   obtain⟨gC,s2⟩:=s1.other hg VP (fun o _=>fp o) ⟨_,_,_,CS⟩ xq (fun t g0 h0 bo xA=>by rw[hT1]at h0;obtain⟨b',eT,_,hn,_⟩:=(s.tok t g0 h0).2 bo;rw[xA]at eT;obtain rfl:=ach eT;exact hn (acx EZ));exact⟨_,G1,_,x1,fun b o hd=>gC b o (x1.D b o hd),s2,.str _ l (by simp) R.lm,hk⟩
  ·cases hk
 ·
  rename_i τ f F q v n τ' f';replace hk:=zf hk;obtain⟨hc,hk⟩:=hk;simp only[acf,b_]at hc;obtain⟨he,rfl⟩:=hc;obtain rfl:=Ty.beq_eq _ _ he;obtain⟨l,bX,hk,_⟩:=jw hk;obtain⟨hc,hk⟩:=zf hk;simp only[acf,b_,eV]at hc;obtain⟨hc,bo⟩:=hc;obtain⟨u1,u2,jh,hx,hf⟩:=hv.two;have kG:aj=#[u1,u2]:=acG (by simpa using jh);subst kG;have Vo:u2 = .func (.func f) #[] #[]:=by
   cases hf with
   |fn _ x y _ _ tO _ GX _ =>have e1:x=#[]:=ads (by simpa using tO);have e2:y=#[]:=ads (by simpa using GX);rw[e1,e2]
  subst Vo;obtain⟨qq,cap,R⟩:=s.rowAt bX (ET hx);obtain⟨e1,A,rfl,hA⟩:=R.ms hx;rcases R.wh with⟨e,e2,e3⟩ |⟨bq,cur,tq,e,VP,CS,dy,CT⟩
  ·subst e2 e3;refine(hP.2 w A s.below).mono ?_
   rintro v' w' ⟨rfl,hg⟩
   have hF:F []=[]:=acs hc;rw[hF]at hk;have tS:dF h.bx q [.row v τ []]=h.bx:=by
    rw[zk];apply adf;intro i;rw[acn];by_cases hi:q=i
    ·subst hi;rw[if_pos rfl,bX,if_pos (ab9.1 bX).1]
    ·rw[if_neg hi]
   rw[tS]at hk;exact⟨_,G,h,Ext.refl (cF.le_refl _),bg.fB hg (fun b o x=>(s.ec b o x).1) (fun _ _ _=>by simp),s.gH hg,.cr #[] [] rfl (fun i v c h=>by simp at h),hk⟩
  ·have EZ:G.bx[q]? = some (some bq):=by rw[R.hb,e]
   have xA:=hA bq e;subst xA;refine(hP.1 w bq cap tq cur l G.D s.below CS dy R.lc bo CT (fun o hd=>(s.ec bq o hd).2 (acx EZ)) (fun b o hd=>(s.ec b o hd).1) hc).mono ?_
   rintro v' w' ⟨rfl,ij,hg,kA,jc,fN⟩
   obtain⟨gC,gQ⟩:=s.wU (ds:=[.row v τ (F l)]) EZ CS VP jc hg kA (fun gC=>by refine .row _ v τ (F l) cap R.v0 (by rw[hc];exact R.hv) R.z0 (by rw[hc];exact R.lc) (by rw[hc];exact R.lm) (by rw[acr,jc,dy]) ?_ (fun e=>by rw[hc];exact R.v1 e);rw[hc];exact bf.mono _ _ (fun x _ us hx=>al.mono (fun _ _ hd=>hd) gC τ x us hx) fN) (EG (R.tg bq cur tq e CS));exact⟨_,G,_,Ext.refl (cF.le_refl _),gC,gQ,.cr #[] [] rfl (fun i v c h=>by simp at h),hk⟩
 ·
  rename_i F q as;split at hk
  ·rename_i cs dy;rw[zo]at dy;cases lM:isRow cs with
   |true=>rw[lM]at hk;cases hk
   | false =>
    rw[lM,cond_false]at hk;split at hk
    ·rename_i v EV;obtain⟨x,us,jh⟩:∃x us,aj.toList=x::us:=by
      cases k7:aj.toList with
      |nil=>rw[k7]at hv;exact absurd hv.1 (by simp)
      |cons x us=>exact⟨x,us,rfl⟩
     rw[jh]at hv;obtain⟨hx,pf⟩:=hv.tail;obtain⟨b,vs,t,rfl,hb,hB,hh,h0,hl,ht⟩:=VO s hx dy lM;have kG:aj=(.pointer (some ⟨b,0,none⟩)::us).toArray:=acG (by simpa using jh);subst kG;refine(hP w G b vs t cs as us v s.below hh hl pf EV).mono ?_
     rintro y w' ⟨hg,hy⟩
     exact⟨_,G,h,Ext.refl (cF.le_refl _),bg.fB hg (fun b o x=>(s.ec b o x).1) (fun _ _ _=>by simp),s.gH hg,hy,hk⟩
    ·cases hk
  ·cases hk
 ·
  rename_i es;have kG:aj=#[]:=acG (by have:=hv.1;simp at this;simpa using this);subst kG;refine(hP w s.below).mono ?_
  rintro v w' ⟨rfl,c,rfl⟩
  obtain⟨G',g1,g2,g3,g4,g5,_⟩:=s.DL (ob:=.map (nI es) c) (cs:=[.wq es]) ⟨0,0,0,0⟩ (fun G' hx hg hb ik => .fm es c (by rw[hg]));exact⟨_,G',_,g1,g2,g3,.gq _ _ g4 (by rw[g5]),hk⟩
 ·cases hk
end
end Go.AM
namespace Go.AM
open Go.RowKit
section
variable {P:Program} {w:World} {G:GS}
def hK(D:Nat→Nat→Prop)(w:World)(a:AV)(v:Value)(w':World):Prop:=
 ∃G':GS,G'.df=[]∧(∀b o,D b o→G'.D b o)∧St w.heap.size ⟨w,D⟩ G' ⟨[],(mI [] a).2,[]⟩ w'∧af w' G' v (mI [] a).1
def mc(P:Program)(W:World→Prop)(g:FuncId)(iY:List AV→Option Entry):Prop:=
 ∀(args:List AV)(en:Entry)(y:en.Y),iY args=some en→en.o=some y→∀(w:World)(D:Nat→Nat→Prop)(aj:Array Value),W w→ak w ⟨D,[],[],[],[],rI⟩ aj.toList args→(∀b o,D b o→∃u,w.cell? ⟨b,o,none⟩=some u) →
  my P g aj w (hK D w (en.enc y))
theorem CV{n:Nat}:∀{cs:List AV}{i:Nat}{c:AV},(uL n cs)[i]? = some c→∃d,cs[i]? = some d∧c=yD n d
 |[],i,c,h=>by simp[uL]at h
 |d::ds,0,c,h=>by simp only[uL,ada,acj]at h;exact⟨d,rfl,h.symm⟩
 |d::ds,i+1,c,h=>by simp only[uL,adb]at h ⊢;exact CV h
theorem tT{n:Nat}:∀{cs:List AV},(uL n cs).length=cs.length
 |[]=>rfl
 |d::ds=>by simp[uL,tT (cs:=ds)]
theorem z0t{G1:GS}{L:List (Option Tk)}(hD:G1.D=G.D)(hb:G.bx=[])(hl:G.lp=[])(ht:G1.tk=L++G.tk){v:Value}{a:AV}(h:af w G v a):af w G1 v (yD L.length a):=by
 induction h with
 |any v=>exact .any v
 |bool b=>exact .bool b
 |int k n h=>exact .int k n h
 |str s l h hl=>exact .str s l h hl
 |sl τ l c v h hc =>
  rw[←hD]at h;cases c with
  |full=>exact .sl _ _ _ _ h hc
  |eY=>exact .sl _ _ _ _ h trivial
  |fresh=>exact .sl _ _ _ _ h trivial
  |own t =>obtain⟨o,h1,h2⟩:=hc;exact .sl _ _ _ _ h ⟨o,by rw[ht,ace (by omega),show L.length+t - L.length=t from by omega];exact h1,h2⟩
 |fe=>exact .fe
 |agg vs cs hl _ ih =>simp only[yD];refine .agg vs _ (by rw[tT];exact hl) fun i v c hv hc => ?_;obtain⟨d,hd,rfl⟩:=CV hc;exact ih i v d hv hd
 |cr vs cs hl _ ih =>simp only[yD];refine .cr vs _ (by rw[tT];exact hl) fun i v c hv hc => ?_;obtain⟨d,hd,rfl⟩:=CV hc;exact ih i v d hv hd
 |fX=>exact .fX
 |ref r off b h hv=>rw[hb]at h;simp at h
 |ms r v n τ x h0 hs h =>obtain⟨b,h,_⟩:=h;rw[hb]at h;simp at h
 |ep r v i off τ x h0 hs h =>obtain⟨b,h,_⟩:=h;rw[hb]at h;simp at h
 |iM b o us cs hl hm _ ih =>simp only[yD];refine .iM b o us _ (by rw[tT];exact hl) (by rw[hD];exact hm) fun i v c hv hc => ?_;obtain⟨d,hd,rfl⟩:=CV hc;exact ih i v d hv hd
 |gp n b o c us cs h0 hc hl hm _ ih =>simp only[yD];refine .gp n b o c us _ h0 hc (by rw[tT];exact hl) (by rw[hD];exact hm) fun i v c hv hc => ?_;obtain⟨d,hd,rfl⟩:=CV hc;exact ih i v d hv hd
 |ea r T b v h hv hp=>rw[hb]at h;simp at h
 |gq r b h hv=>rw[hb]at h;simp at h
 |bl=>exact .bl
 |fn f x y a b hx _ hy _ i1 i2 =>
  simp only[yD];refine .fn f x y _ _ (by rw[tT];exact hx) (fun i v c hv hc => ?_) (by rw[tT];exact hy) fun i v c hv hc => ?_
  ·obtain⟨d,hd,rfl⟩:=CV hc;exact i1 i v d hv hd
  ·obtain⟨d,hd,rfl⟩:=CV hc;exact i2 i v d hv hd
 |yield j p h=>rw[hl]at h;simp at h
 |jI=>exact .jI
 |ky t x=>exact .ky t x
theorem VQ{X:Type}{B0:Nat}{w0:Wd}{h:H}(s:St B0 w0 G h w){a:AV}{v:Value}{w':World}(hp:hK G.D w a v w'){k:AV→H→Option X}{r:X}
 (hk:k (yD h.tk.length (mI [] a).1) { h with tk:=h.tk++(mI [] a).2 }=some r):Ends B0 w0 G w k r v w':=by
 obtain⟨G1,LZ,hD1,s1,hv⟩:=hp;have VR:∀b o,G1.D b o→G.D b o∨w.heap.size≤b:=s1.fo;have kB:G1.bx=[]:=acs (by rw[←s1.eb];rfl);have ER:G1.lp=[]:=acs (by rw[←s1.fU];rfl);have hblk:∀(b:Nat)(o:Obj),w.heap[b]? = some o→w'.heap[b]? = some o:=fun b o ho=>(s1.below.block b (acu.1 ho).1).trans ho;have bo:∀(b:Nat)(o:Obj),w.heap[b]? = some o→b<w.heap.size:=fun b o ho=>(acu.1 ho).1;have fp:∀(b o:Nat)(u:Value),w.cell? ⟨b,o,none⟩=some u→b<w.heap.size:=fun b o u hu=>World.block_lt_of_cell? w _ hu;have qG:bg G.D w w':=fun b o x=>by obtain⟨u,hu⟩:=(s.ec b o x).1;exact s1.below.cell (p:=⟨b,o,none⟩) (fp b o u hu)
 have jf:∀(q b:Nat),G.bx[q]? = some (some b)→b<w.heap.size:=fun q b hq=>by
  have sI:q<h.bx.length:=by rw[s.eb];exact(ab9.1 hq).1
  obtain⟨_,_,hh,_⟩:=s.box q b _ hq (acp sI);exact bo b _ hh
 let G2:GS:={ D:=G1.D,bx:=G.bx,tk:=G.tk++G1.tk,lp:=G.lp,df:=G.df,bv:=G.bv }
 have hx:Ext G.base G G2:=
  { D := hD1
    bx:=fun _ _ => .inl ⟨rfl,rfl⟩
    tk:=fun t ht=>by have jF:t<G.tk.length:=ht;exact⟨G.tk[t],G.tk[t],by simp[jF],by simp[G2,acd jF],.inr (.inl rfl)⟩
    lp:=fun _ _=>rfl
    df:=rfl }
 have hlen:h.tk.length=G.tk.length:=by rw[s.fO];simp
 refine⟨_,G2,_,hx,qG,?_,z0t (G:=G1) (G1:=G2) (L:=G.tk) rfl kB ER rfl hv,by rw[hlen]at hk;exact hk⟩;have CD:∀(t:Nat)(g:Tk),G.tk[t]? = some (some g)→g.n<g.cap→∀b,g.A=some b→b<w.heap.size:=fun t g ht hl b hA=>by obtain⟨b',eT,_,_,_,_,_,hh,_⟩:=(s.tok t g ht).2 hl;rw[hA]at eT;obtain rfl:=ach eT;exact bo _ _ hh
 have new:∀(t:Nat)(g:Tk),G1.tk[t]? = some (some g)→g.n<g.cap→∀b,g.A=some b→w.heap.size≤b:=fun t g ht hl b hA=>by obtain⟨b',eT,hB,_⟩:=(s1.tok t g ht).2 hl;rw[hA]at eT;obtain rfl:=ach eT;exact hB
 have split:∀(t:Nat)(g:Tk),(G.tk++G1.tk)[t]? = some (some g)→(t<G.tk.length∧G.tk[t]? = some (some g))∨(G.tk.length≤t∧G1.tk[t - G.tk.length]? = some (some g)):=fun t g ht=>by
  by_cases h1:t<G.tk.length
  ·rw[acd h1]at ht;exact .inl ⟨h1,ht⟩
  ·rw[ace (by omega)]at ht;exact .inr ⟨by omega,ht⟩
 exact
 { below := s.below.trans (s1.below.mono s.b0)
   b0:=Nat.le_trans s.b0 s1.below.size
   eb:=s.eb
   box:=fun q b cs h1 h2=>by obtain⟨hB,ob,hh,hr⟩:=s.box q b cs h1 h2;exact⟨hB,ob,hblk _ _ hh,hr.eJ hx qG rfl⟩
   fl:=s.fl
   inj:=s.inj
   ec := fun b o BO=>by
    refine⟨(s1.ec b o BO).1,fun hm => ?_⟩;obtain⟨q,hq⟩:=acH hm;rcases VR b o BO with hd|hd
    ·exact(s.ec b o hd).2 hm
    ·have:=jf q b hq;omega
   fo:=fun b o BO=>(VR b o BO).elim (s.fo b o) fun hh => .inr (Nat.le_trans s.b0 hh)
   fO:=by simp only[G2];rw[adq,←s.fO,←s1.fO]
   tok := fun t g ht=>by
    rcases split t g ht with⟨_,h1⟩ |⟨_,h1⟩
    ·obtain⟨h2,h3⟩:=s.tok t g h1;refine⟨h2,fun hl => ?_⟩;obtain⟨b,hA,hB,hn,cs,et,fr,hh,hc,hi⟩:=h3 hl;refine⟨b,hA,hB,hn,cs,et,fr,hblk _ _ hh,hc,fun i i1 i2=>⟨fun hd => ?_,?_⟩⟩
     ·rcases VR b i hd with hd|hd
      ·exact(hi i i1 i2).1 hd
      ·have:=bo _ _ hh;omega
     ·rw[s1.below.frozen (p:=⟨b,i,none⟩) (bo _ _ hh)];exact(hi i i1 i2).2
    ·obtain⟨h2,h3⟩:=s1.tok _ g h1;refine⟨h2,fun hl => ?_⟩;obtain⟨b,hA,hB,hn,cs,et,fr,hh,hc,hi⟩:=h3 hl;refine⟨b,hA,Nat.le_trans s.b0 hB,fun hm => ?_,cs,et,fr,hh,hc,hi⟩;obtain⟨q,hq⟩:=acH hm;have:=jf q b hq;omega
   gA := fun t t' g g' h1 h2 c_ l1 l2=>by
    have GY:∀(t t':Nat)(g g':Tk),G.tk[t]? = some (some g)→G1.tk[t']? = some (some g')→g.n<g.cap→g'.n<g'.cap→g.A≠g'.A:=fun t t' g g' k1 k2 l1 l2 e=>by obtain⟨b,hA,_⟩:=(s.tok t g k1).2 l1;have a1:=CD t g k1 l1 b hA;have a2:=new t' g' k2 l2 b (by rw[←e];exact hA);omega
    rcases split t g h1 with⟨e1,k1⟩ |⟨e1,k1⟩<;>rcases split t' g' h2 with⟨e2,k2⟩ |⟨e2,k2⟩
    ·exact s.gA t t' g g' k1 k2 c_ l1 l2
    ·exact GY _ _ _ _ k1 k2 l1 l2
    ·exact fun e=>GY _ _ _ _ k2 k1 l2 l1 e.symm
    ·exact s1.gA _ _ g g' k1 k2 (by omega) l1 l2
   fU:=s.fU
   loop:=fun j p st h1 h2=>by obtain⟨hB,rec,hh,hr⟩:=s.loop j p st h1 h2;exact⟨hB,rec,hblk _ _ hh,hr⟩
   ie:=s.ie
   gu:=fun d hd=>⟨(s.gu d hd).1,hblk _ _ (s.gu d hd).2⟩
   ig:=s.ig }
theorem VS:∀{cs:List AV}{i:Nat}{c:AV},(yC cs)[i]? = some c→∃d,cs[i]? = some d∧c=dc d
 |[],i,c,h=>by simp[yC]at h
 |d::ds,0,c,h=>by simp only[yC,ada,acj]at h;exact⟨d,rfl,h.symm⟩
 |d::ds,i+1,c,h=>by simp only[yC,adb]at h ⊢;exact VS h
theorem VT:∀{cs:List AV},(yC cs).length=cs.length
 |[]=>rfl
 |d::ds=>by simp[yC,VT (cs:=ds)]
theorem VU:∀{cs:List AV}{i:Nat}{c:AV},sw cs=true→cs[i]? = some c→zT c=true
 |[],i,c,_,h=>by simp at h
 |d::ds,0,c,h,hc=>by simp only[sw,acf]at h;simp at hc;subst hc;exact h.1
 |d::ds,i+1,c,h,hc=>by simp only[sw,acf]at h;exact VU h.2 (by simpa using hc)
theorem zw1{G1:GS}(hD:G1.D=G.D){v:Value}{a:AV}(h:af w G v a):zT a=true→af w G1 v (dc a):=by
 induction h with
 |bool b=>intro _;exact .bool b
 |int k n h=>intro _;exact .int k n h
 |str s l h hl=>intro _;exact .str s l h hl
 |sl τ l c v h hc=>intro _;exact .sl _ _ _ _ (by rw[hD];exact h) trivial
 |fe=>intro _;exact .fe
 |agg vs cs hl _ ih =>intro hd;simp only[zT]at hd;simp only[dc];refine .agg vs _ (by rw[VT];exact hl) fun i v c hv hc => ?_;obtain⟨d,jK,rfl⟩:=VS hc;exact ih i v d hv jK (VU hd jK)
 |jI=>intro _;exact .jI
 |ky t x=>intro _;exact .ky t x
 |_=>intro hd;cases hd
theorem zty{G1:GS}(hD:G1.D=G.D){vs:List Value}{cs:List AV}(h:ak w G vs cs)(hd:sw cs=true):ak w G1 vs (yC cs):=⟨by rw[VT];exact h.1,fun i v c hv hc=>by obtain⟨d,jK,rfl⟩:=VS hc;exact zw1 hD (h.2 i v d hv jK) (VU hd jK)⟩
def FW(ρ:Option Nat):Fence:={ acP with round:=ρ }
def GZ{X:Type}(cx:Cx X)(G:GS)(w:World)(p:sC)(hd:HD):Prop:=
 ∃N lv ps aS b,cx.lr hd.g hd.i=some (N,lv,ps,aS,b)∧p.st.params.toList=ps∧p.st.assign=aS∧p.st.body=b∧eN w G N p.st.tmps hd.e
def nE{X:Type}(cx:Cx X)(Y:Ys)(G:GS)(w:World):Prop:=∀(j:Nat)(hd:HD),xc Y j=some hd→∃p,G.lp[j]? = some p∧GZ cx G w p hd
structure iU {X:Type} (P:Program) (B0:Nat) (w0:Wd) (cx:Cx X) (O:Open X):Prop where
 call:∀(g:Nat)(args:List AV)(Y:Ys)(h:H)(k:AV→H→Option X)(r:X),O (.call g args) Y h k=some r→∀(G:GS)(w:World)(aj:Array Value),St B0 w0 G h w→nE cx Y G w→ak w G aj.toList args →
  (callFunc g aj).run P w = .ok (.enter g aj) w∧CallsIn acP 0 P g aj w (sN B0 w0 G w k r)
 round:∀(j:Nat)(hd:HD)(args:List AV)(Y:Ys)(h:H)(k:AV→H→Option X)(r:X),O (.round j hd args) Y h k=some r→∀(G:GS)(w:World)(aj:Array Value)(p:sC)(rec:Loop),St B0 w0 G h w→nE cx Y G w →
  ak w G aj.toList args→G.lp[j]? = some p→GZ cx G w p hd→w.heap[p.l]? = some (.loop rec)→mW rec p.st →
  aj.size=rec.params.size∧∀fn,RoundIn acP 0 P p.l fn ((rec.params.zip aj).foldl (fun tmps (t,a)=>tmps.setIfInBounds t a) rec.tmps) rec.assign rec.body w (sN B0 w0 G w k r)
 Bq:∀(T q g:Nat)(args:List AV)(Y:Ys)(h:H)(k:AV→H→Option X)(r:X),O (.Bq T q g args) Y h k=some r→∀(G:GS)(w:World)(aj:Array Value),St B0 w0 G h w→nE cx Y G w→ak w G aj.toList args →
  (callFunc g aj).run P w = .ok (.enter g aj) w∧CallsIn acP 0 P g aj w (Ao B0 w0 T q G w k r)
theorem z3v{X:Type}{cx:Cx X}{Y:Ys}{G G':GS}{w w':World}(h:nE cx Y G w)(hx:Ext G.base G G')(hk:bg G.D w w'):nE cx Y G' w':=fun j hd hl=>by obtain⟨p,h1,N,lv,ps,aS,b,h2,h3,h4,h5,h6⟩:=h j hd hl;exact⟨p,(hx.lp j (ab9.1 h1).1).trans h1,N,lv,ps,aS,b,h2,h3,h4,h5,h6.mono hx hk⟩
theorem zru{X:Type}{cx:Cx X}{O:Open X}{Y:Ys}{B0:Nat}{w0:Wd}(hO:iU P B0 w0 cx O){h:H}(s:St B0 w0 G h w)(hY:nE cx Y G w){g T:Nat}(hp:jg P (Below B0 w0.w) g (.vM T)){aj:Array Value}{args:List AV}(ha:ak w G aj.toList args){k:AV→H→Option X}{r:X}
 (hk:DG O Y T args h k=some r):(callFunc g aj).run P w = .ok (.enter g aj) w∧CallsIn acP 0 P g aj w (sN B0 w0 G w k r):=by
 unfold DG at hk;split at hk
 ·rename_i l c f first cap
  obtain⟨hc,hk⟩:=zf hk;simp only[acf,jZ]at hc;refine hp X B0 w0 G h w aj l c f first cap k r (fun _ h=>h) hc.2 s ha fun G1 w1 vs hx gC st iz => ?_
  exact hO.Bq T _ f _ Y _ _ r hk G1 w1 vs st (z3v hY hx gC) iz
 ·cases hk
theorem zhg{X:Type}{cx:Cx X}{O:Open X}{Y:Ys}{B0:Nat}{w0:Wd}(hC:(∀g iY,cx.C g=some iY→mc P (Below B0 w0.w) g iY)∧∀g p,cx.pr g=some p→jg P (Below B0 w0.w) g p)(hO:iU P B0 w0 cx O){h:H}(s:St B0 w0 G h w)(hY:nE cx Y G w){ρ:Option Nat}{o:Oper}{c:Call}{f:Operand}
 (ho:o.op = .call c) (hf:c.callee = .value f) {a:Act} {fa:AV} {aS:List AV} (BP:af w G (a.eval f) fa) (has:ak w G (c.args.map a.eval).toList aS) {k:AV→H→Option X} {r:X} (hk:nU cx O Y fa aS h k=some r)
 {next:Act→World→Prop} {Q:Exit→Act→World→Prop} (hn:∀v w',Ends B0 w0 G w k r v w'→next (a.put o.dst v) w'):o.uponIn (FW ρ) 0 P a next Q ((execOp a.eval o).run P w):=by
 have CW:(FW ρ).depth.isSome=true→1≤0:=by intro h;cases h
 have ew:(execOp a.eval o).run P w=(do let d ←ac0 (a.eval f) (c.args.map a.eval);invoke d.target d.args:Sem Next).run P w:=by simp only[execOp,ho,resolve,hf]
 rw[ew];unfold nU at hk;split at hk
 ·rename_i g first cap
  generalize a.eval f=fv at BP;cases BP with
  | fn _ x y _ _ hx h1 hy h2 =>
   have jh:ak w G (x++c.args.map a.eval++y).toList (first++aS++cap):=by rw[Array.toList_append,Array.toList_append];exact(ak.append ⟨by simpa using hx,fun i v c hv hc=>h1 i v c (by simpa using hv) hc⟩ has).append ⟨by simpa using hy,fun i v c hv hc=>h2 i v c (by simpa using hv) hc⟩
   have gh:(do let d ←ac0 (.func (.func g) x y) (c.args.map a.eval);invoke d.target d.args:Sem Next).run P w=(callFunc g (x++c.args.map a.eval++y)).run P w:=by simp[ac0,invoke]
   rw[gh];split at hk
   ·rename_i p hp;by_cases htp:∃T,p = .vM T
    ·obtain⟨T,rfl⟩:=htp;have hk:DG O Y T (first++aS++cap) h k=some r:=hk;obtain⟨h1,h2⟩:=zru hO s hY (hC.2 g _ hp) jh hk;rw[h1,adg];refine⟨CW,adr (F:=FW ρ) (n:=0) h2 ?_⟩;intro e w' hR;cases e with
     |returned v=>exact hn v w' hR
     |panicked ch=>exact hR.elim
     |outgrown=>exact hR.elim
    have hk:Bv p (first++aS++cap) h k=some r:=by
     cases p with
     |vM T=>exact absurd ⟨T,rfl⟩ htp
     |_=>exact hk
    rcases ztx s (hC.2 g p hp) jh hk with⟨h1,h2⟩ |⟨v,w',h1,h2⟩
    ·rw[h1,adg];refine⟨CW,adr (F:=FW ρ) (n:=0) h2 ?_⟩;intro e w' hR;cases e with
     |returned v=>exact hn v w' hR
     |panicked ch=>exact hR.elim
     |outgrown=>exact hR.elim
    ·rw[h1,Oper.uponIn_value];exact hn v w' h2
   split at hk
   ·rename_i iY GL;obtain⟨hd,hk⟩:=zf hk;split at hk
    ·rename_i en Al;cases l8:en.o with
     |none=>rw[l8]at hk;simp at hk
     | some yy =>
      rw[l8]at hk;simp only[acD]at hk;have hg:=hC.1 g iY GL _ en yy Al l8 w G.D _ s.below (zty (G:=G) (G1:=⟨G.D,[],[],[],[],rI⟩) rfl jh hd) (fun b o x=>(s.ec b o x).1);rcases hg with⟨h1,h2⟩ |⟨v,w',h1,h2⟩
      ·rw[h1,adg];refine⟨CW,adr (F:=FW ρ) (n:=0) h2 ?_⟩;intro e w' hR;cases e with
       |returned v=>exact hn v w' (VQ s hR hk)
       |panicked ch=>exact hR.elim
       |outgrown=>exact hR.elim
      ·rw[h1,Oper.uponIn_value];exact hn v w' (VQ s h2 hk)
    ·cases hk
   ·obtain⟨h1,h2⟩:=hO.call g _ Y h k r hk G w _ s hY jh;rw[h1,adg];refine⟨CW,adr (F:=FW ρ) (n:=0) h2 ?_⟩;intro e w' hR;cases e with
    |returned v=>exact hn v w' hR
    |panicked ch=>exact hR.elim
    |outgrown=>exact hR.elim
 ·rename_i j;generalize a.eval f=fv at BP;cases BP with
  | yield _ p hp =>
   split at hk
   ·rename_i hd VV;obtain⟨p',xl,cb⟩:=hY j hd VV;rw[hp]at xl;obtain rfl:=ach xl;have hj:j<h.lp.length:=by rw[s.fU];exact(ab9.1 hp).1
    obtain⟨_,rec,pT,sO,_⟩:=s.loop j p _ hp (acp hj);obtain⟨dz,L0⟩:=hO.round j hd aS Y h k r hk G w (c.args.map a.eval) p rec s hY has hp cb pT sO;have gh:(do let d ←ac0 (.func (.yield p.l) #[] #[]) (c.args.map a.eval);invoke d.target d.args:Sem Next).run P w=(Instr.yield p.l (c.args.map a.eval)).run P w:=by simp[ac0,invoke]
    rw[gh,run_yield pT dz,Oper.uponIn_round];refine⟨CW,RoundIn.mono (F:=FW ρ) (n:=0) (L0 rec.fn) ?_⟩;intro e w' hR;cases e with
    |returned v=>exact hn v w' hR
    |panicked ch=>exact hR.elim
    |outgrown=>exact hR.elim
   ·cases hk
 ·cases hk
end
end Go.AM
