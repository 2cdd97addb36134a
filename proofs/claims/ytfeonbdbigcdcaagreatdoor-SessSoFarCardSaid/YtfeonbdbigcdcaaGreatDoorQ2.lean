/- Part 2 of a proof by the abstract machine. -/
import Derived.Test.YtfeonbdbigcdcaaGreatDoorQ1
import Derived.Laws.StructEq
import Derived.MapKept
import Derived.RangeFuncRecord
import Derived.OrdersIn
set_option linter.unusedVariables false
set_option linter.unusedSimpArgs false
namespace Go.AM
open Go.RowKit
section
variable {P:Program} {w:World} {G:GS}
theorem Good.pure {X:Type} {B0:Nat} {w0:Wd} {h:H} {k:AV→H→Option X} {r:X} {v:Value} {av:AV} (st:St B0 w0 G h w) (hv:RepV w G v av) (hk:k av h=some r) :
 Good P B0 w0 G w k r ((Pure.pure (Next.value v):Sem Next).run P w):=⟨v,w,.inl rfl,Ends.same st hv hk⟩
theorem zco {X:Type} {cx:Cx X} (hT:TabOK P cx.tab) {t f off ft:Nat} {fs:List (Nat×Nat)} {ti fi:TI} (ht:cx.tab t=some ti) (hd:ti.d = .struct fs) (hn:nth fs f=some (off,ft)) (hf:cx.tab ft=some fi) :
 ∃ (fields:Array Field) (fd:Field),P.underlying t=some (.struct fields)∧fields[f]? = some fd∧fd.offset=off∧fd.type=ft:=by
 have h:=(hT t ti ht).d
 rw [hd] at h
 obtain ⟨fields,hu,hfs,_⟩:=h
 rw [zl,← hfs,List.getElem?_map] at hn
 obtain ⟨fd,h1,h2⟩:=Option.map_eq_some_iff.1 hn
 simp only [Prod.mk.injEq] at h2
 exact ⟨fields,fd,hu,by simpa using h1,h2.1,h2.2⟩
theorem zee {X:Type} {cx:Cx X} (hT:TabOK P cx.tab) {B0:Nat} {w0:Wd} {h:H} (st:St B0 w0 G h w) {b:Builtin} {ts:Array TypeId} {ty:TypeId} {cs:Array Bool} {args:Array Value} {aS:List AV}
 (ha:RepL w G args.toList aS) {k:AV→H→Option X} {r:X} (hk:builtinA cx b ts.toList aS h k=some r):Good P B0 w0 G w k r ((builtin b ts ty cs args).run P w):=by
 have hint:∀ n:Int,RepV w G (goInt n) (.int .i64 n):=fun n => .int _ _ (by intro e; cases e)
 unfold builtinA at hk
 split at hk
 · rename_i b x
   obtain ⟨v,hargs,hv⟩:=ha.one
   have hargs':args=#[v]:=Array.ext' (by simpa using hargs)
   subst hargs'
   split at hk
   · rename_i t ts' hts
     have hts':ts[0]? = some t:=by rw [← Array.getElem?_toList,hts]; rfl
     split at hk
     · rename_i n e _ _ _ _ _ _ ht
       have hd:=(hT t _ ht).d
       refine Good.v st (v:=goInt n) ?_ (hint n) hk
       simp [Builtin.len_,hts',Sem.run_bind,run_underlying hd]
     · rename_i _ _ _ _ _ _ ht
       have hd:=(hT t _ ht).d
       split at hk
       · rename_i s
         obtain ⟨bs,rfl,hbs,_⟩:=zo hv
         refine Good.v st (v:=goInt s.length) ?_ (hint _) hk
         have hsz:bs.size=s.length:=by rw [zav,hbs]
         simp [Builtin.len_,hts',Sem.run_bind,run_underlying hd,hsz]
       · cases hk
     · rename_i e _ _ _ _ _ _ ht
       have hd:=(hT t _ ht).d
       split at hk
       · rename_i τ l c
         obtain ⟨A,cap,rfl,_⟩:=zcc hv
         refine Good.v st (v:=goInt l.length) ?_ (hint _) hk
         simp [Builtin.len_,hts',Sem.run_bind,run_underlying hd]
       · cases hv
         refine Good.v st (v:=goInt 0) ?_ (hint _) hk
         simp [Builtin.len_,hts',Sem.run_bind,run_underlying hd]
       · rename_i n cs
         cases hv with
         | imms _ b o c us _ h0 hc hl hmm hr =>
          refine Good.v st (v:=goInt n) ?_ (hint _) hk
          simp [Builtin.len_,hts',Sem.run_bind,run_underlying hd]
       · cases hk
     · cases hk
   · cases hk
 · rename_i b s x
   obtain ⟨v1,v2,hargs,h1,h2⟩:=ha.two
   have hargs':args=#[v1,v2]:=Array.ext' (by simpa using hargs)
   subst hargs'
   split at hk
   · rename_i t t2 rest hts
     have e0:ts=(t::t2::rest).toArray:=by rw [← hts]
     have hap:Builtin.append_ ts ty #[v1,v2]=Builtin.append_ #[t,t2] ty #[v1,v2]:=by
      rw [e0]
      simp [Builtin.append_]
     split at hk
     · rename_i e _ _ _ _ _ _ ht2
       obtain ⟨v,w',hr,hE⟩:=zed (ty:=ty) hT st ht2 (.inl ⟨_,rfl⟩) h1 h2 hk
       refine Good.v' (s:=Builtin.append_ ts ty #[v1,v2]) ?_ hE
       rw [hap]; exact hr
     · rename_i _ _ _ _ _ _ ht2
       obtain ⟨v,w',hr,hE⟩:=zed (ty:=ty) hT st ht2 (.inr rfl) h1 h2 hk
       refine Good.v' (s:=Builtin.append_ ts ty #[v1,v2]) ?_ hE
       rw [hap]; exact hr
     · cases hk
   · cases hk
 · rename_i q x q' y
   obtain ⟨v1,v2,hargs,h1,h2⟩:=ha.two
   have hargs':args=#[v1,v2]:=Array.ext' (by simpa using hargs)
   subst hargs'
   obtain ⟨rfl,hx⟩:=zj h1
   obtain ⟨rfl,hy⟩:=zj h2
   split at hk
   · rename_i hq
     subst hq
     refine Good.v st (v:=.int q (if y<x then y else x)) ?_ (.int _ _ fun e=>by split; exact hy e; exact hx e) hk
     simp [Builtin.min_,Builtin.min2]
   · cases hk
 · rename_i q x q' y
   obtain ⟨v1,v2,hargs,h1,h2⟩:=ha.two
   have hargs':args=#[v1,v2]:=Array.ext' (by simpa using hargs)
   subst hargs'
   obtain ⟨rfl,hx⟩:=zj h1
   obtain ⟨rfl,hy⟩:=zj h2
   split at hk
   · rename_i hq
     subst hq
     refine Good.v st (v:=.int q (if y>x then y else x)) ?_ (.int _ _ fun e=>by split; exact hy e; exact hx e) hk
     simp [Builtin.max_,Builtin.max2]
   · cases hk
 · cases hk
theorem zh2 {X:Type} {sz:Nat} {i:Int} {k:AV→Option X} {q:X}:∀ (n j r o:Nat),aref sz i n (j:Int) r o k=some q→∃ m:Nat,i=m∧m<j+n∧k (.ref r (o+(m - j)*sz))=some q∧j≤m
 | 0,j,r,o,h=>by cases h
 | n + 1,j,r,o,h=>by
  simp only [aref] at h
  cases hc:(i==(j:Int)) with
  | true =>
   rw [hc] at h
   have hij:i=j:=by simpa using hc
   exact ⟨j,hij,by omega,by simpa using h,Nat.le_refl _⟩
  | false =>
   rw [hc] at h
   obtain ⟨m,h1,h2,h3,h4⟩:=zh2 n (j+1) r (o+sz) (by simpa using h)
   refine ⟨m,h1,by omega,?_,by omega⟩
   rw [show o+(m - j)*sz=o+sz+(m - (j+1))*sz from by rw [show m - j=(m - (j+1))+1 from by omega,Nat.add_mul]; omega]
   exact h3
theorem zqq {X:Type} {cx:Cx X} {O:Open X} {Y:Ys} (hT:TabOK P cx.tab) {B0:Nat} {w0:Wd} {h:H} (st:St B0 w0 G h w) {a:Act} {e:Env} {N:Nat} (he:EnvR w G N a.tmps e) (o:Oper)
 (hnc:∀ c f,o.op = .call c→c.callee ≠ .value f) {k:AV→H→Option X} {r:X} (hk:opA cx O Y o e h k=some r):Good P B0 w0 G w k r ((execOp a.eval o).run P w):=by
 unfold opA at hk
 unfold execOp
 split at hk
 · rename_i x ho
   simp only [ho]
   exact Good.pure st (zac (he.ev x) _) hk
 · rename_i x ho
   simp only [ho]
   exact Good.pure st (zac (he.ev x) _) hk
 · rename_i c x y ho
   simp only [ho]
   split at hk
   · rename_i b hb
     have hc:=he.ev c
     rw [hb] at hc
     have hc:=zah hc
     rw [hc]
     cases b with
     | true=>exact ⟨a.eval x,w,.inl (by simp [asBool]),Ends.same st (he.ev x) hk⟩
     | false=>exact ⟨a.eval y,w,.inl (by simp [asBool]),Ends.same st (he.ev y) hk⟩
   · cases hk
 · rename_i t ho
   simp only [ho]
   split at hk
   · rename_i ti ht
     obtain ⟨hc,hk⟩:=zb hk
     simp only [Bool.and_eq_true,nbeq,nblt] at hc
     obtain ⟨v,w',h1,h2⟩:=zla st (hT t ti ht) hc.1 hc.2 hk
     exact Good.v' h1 h2
   · cases hk
 · rename_i t x ho
   simp only [ho]
   split at hk
   · rename_i ti ht
     obtain ⟨hc,hk⟩:=zb hk
     simp only [Bool.and_eq_true,nbeq,nblt] at hc
     obtain ⟨v,w',h1,h2⟩:=zoc (P:=P) (t:=t) st (zac (he.ev x) ti.ty) (by omega) hc.2 hk
     exact Good.v' h1 h2
   · cases hk
 · rename_i t parts ho
   simp only [ho]
   split at hk
   · rename_i ti ht
     obtain ⟨hc,hk⟩:=zb hk
     simp only [Bool.and_eq_true,nbeq,nblt] at hc
     obtain ⟨g1,g2⟩:=zlb hT he ht hc.1 hc.2 (parts:=parts)
     split at hk
     · rename_i fs hd
       split at hk
       · rename_i cs hcs
         obtain ⟨v,h1,h2⟩:=g1 fs cs hd hcs
         exact Good.v st h1 h2 hk
       · cases hk
     · rename_i n et hd
       split at hk
       · rename_i ei hei
         split at hk
         · rename_i cs hcs
           obtain ⟨v,h1,h2⟩:=g2 n et ei cs hd hei hcs
           exact Good.v st h1 h2 hk
         · cases hk
       · cases hk
     · cases hk
   · cases hk
 · rename_i t len parts ho
   simp only [ho]
   split at hk
   · rename_i et _ _ _ _ _ _ ht
     split at hk
     · rename_i ti hei
       split at hk
       · rename_i τ hτ
         split at hk
         · rename_i l hl
           obtain ⟨hc,hk⟩:=zb hk
           simp only [Bool.and_eq_true,nbeq,nblt,nble] at hc
           obtain ⟨⟨⟨⟨c1,c2⟩,c4⟩,c5⟩,c6⟩:=hc
           obtain ⟨v,w',h1,h2⟩:=zf3 hT he st ht rfl hei hl c1 c2 c4 c5 c6 hk
           exact Good.v' h1 h2
         · cases hk
       · split at hk
         · rename_i l hl
           obtain ⟨hc,hk⟩:=zb hk
           simp only [Bool.and_eq_true,nbeq,nblt,nble] at hc
           obtain ⟨⟨⟨⟨c1,c2⟩,c4⟩,c5⟩,c6⟩:=hc
           obtain ⟨v,w',h1,h2⟩:=zi1 hT he st ht rfl hei hl c1 c2 c4 c5 c6 hk
           exact Good.v' h1 h2
         · cases hk
     · cases hk
   · cases hk
 · rename_i t x ho
   simp only [ho]
   split at hk
   · rename_i ti ht
     split at hk
     · rename_i v hv
       obtain ⟨u,h1,h2⟩:=zfc st (hT t ti ht) (he.ev x) hv
       exact Good.v st h1 h2 hk
     · cases hk
   · cases hk
 · rename_i t x y ho
   simp only [ho]
   split at hk
   · rename_i ti ht
     split at hk
     · rename_i h' hs
       obtain ⟨w',h1,h2,h3⟩:=zcb st (hT t ti ht) (he.ev x) (zac (he.ev y) ti.ty) hs
       refine ⟨undef,w',.inr ⟨by simp [Sem.run_bind,h1],rfl⟩,.tup [],G,h',Ext.refl (Base.le_refl _),h2,h3,zap _ _,hk⟩
     · cases hk
   · cases hk
 · rename_i x ho
   simp only [ho]
   have hx:=he.ev x
   split at hk
   · rename_i q off hq
     rw [hq] at hx
     generalize hg:a.eval x=xv at hx
     cases hx with
     | ref _ _ b hb hv =>
      exact Good.pure st (RepV.ref _ _ _ hb hv) hk
   · rename_i cs hq
     rw [hq] at hx
     generalize hg:a.eval x=xv at hx
     cases hx with
     | imm b oo us _ hl hm hr =>
      exact Good.pure st (RepV.imm _ _ _ _ hl hm hr) hk
   · rename_i f c1 c2 hq
     rw [hq] at hx
     generalize hg:a.eval x=xv at hx
     cases hx with
     | fn _ x1 x2 _ _ p1 p2 p3 p4 =>
      exact Good.pure st (RepV.fn _ _ _ _ _ p1 p2 p3 p4) hk
   · rename_i j hq
     rw [hq] at hx
     generalize hg:a.eval x=xv at hx
     cases hx with
     | yield _ p hp =>
      exact Good.pure st (RepV.yield _ _ hp) hk
   · cases hk
 · rename_i op t x y _ ho
   simp only [ho]
   have hx:=he.ev x
   have hy:=he.ev y
   split at hk
   · rename_i b c hb hc
     rw [hb] at hx
     rw [hc] at hy
     split at hk
     · rename_i ht
       obtain ⟨ms,hd⟩:=(hT t _ ht).d
       split at hk
       · generalize hg:a.eval x=xv at hx
         have hrun:∀ (z:Value),(z = .nilIface∧b=false∨∃ tt xx,z = .iface tt xx∧b=true)→(Op.equal t z .nilIface).run P w = .ok (!b) w:=by
          intro z hz
          obtain ⟨dd,ee⟩:∃ dd,Op.maxDepth=dd+1:=⟨9999,rfl⟩
          unfold Op.equal
          rw [ee]
          rcases hz with ⟨rfl,rfl⟩ | ⟨tt,xx,rfl,rfl⟩<;>simp [Op.equalIn,Sem.run_bind,run_underlying hd]
         have hz:xv = .nilIface∧b=false∨∃ tt xx,xv = .iface tt xx∧b=true:=by
          cases hx with
          | err0=>exact .inl ⟨rfl,rfl⟩
          | err1 tt xx=>exact .inr ⟨tt,xx,rfl,rfl⟩
         have hr:=hrun xv hz
         have hgd:(eqGuard .eql t x (.const .nilIface) xv .nilIface).run P w = .ok () w:=by
          rcases hz with ⟨rfl,_⟩ | ⟨tt,xx,rfl,_⟩<;>simp [eqGuard]
         refine Good.v st (v:=.bool (!b)) ?_ (.bool _) hk
         have hev:a.eval (.const .nilIface) = .nilIface:=rfl
         rw [hev]
         simp only [Sem.run_bind,hgd,Result.andThen_ok]
         rcases hz with ⟨rfl,_⟩ | ⟨tt,xx,rfl,_⟩<;>simp [Go.binOp,hr]
       · generalize hg:a.eval x=xv at hx
         have hrun:∀ (z:Value),(z = .nilIface∧b=false∨∃ tt xx,z = .iface tt xx∧b=true)→(Op.equal t z .nilIface).run P w = .ok (!b) w:=by
          intro z hz
          obtain ⟨dd,ee⟩:∃ dd,Op.maxDepth=dd+1:=⟨9999,rfl⟩
          unfold Op.equal
          rw [ee]
          rcases hz with ⟨rfl,rfl⟩ | ⟨tt,xx,rfl,rfl⟩<;>simp [Op.equalIn,Sem.run_bind,run_underlying hd]
         have hz:xv = .nilIface∧b=false∨∃ tt xx,xv = .iface tt xx∧b=true:=by
          cases hx with
          | err0=>exact .inl ⟨rfl,rfl⟩
          | err1 tt xx=>exact .inr ⟨tt,xx,rfl,rfl⟩
         have hr:=hrun xv hz
         have hgd:(eqGuard .neq t x (.const .nilIface) xv .nilIface).run P w = .ok () w:=by
          rcases hz with ⟨rfl,_⟩ | ⟨tt,xx,rfl,_⟩<;>simp [eqGuard]
         refine Good.v st (v:=.bool b) ?_ (.bool _) hk
         have hev:a.eval (.const .nilIface) = .nilIface:=rfl
         rw [hev]
         simp only [Sem.run_bind,hgd,Result.andThen_ok]
         rcases hz with ⟨rfl,_⟩ | ⟨tt,xx,rfl,_⟩<;>simp [Go.binOp,hr]
       · cases hk
     · cases hk
   · rename_i τ l c hb hc
     rw [hb] at hx
     rw [hc] at hy
     generalize a.eval y=yv at hy
     cases hy
     split at hk
     · rename_i et _ _ _ _ _ _ ht
       obtain ⟨bb,hr,hl0,A,nn,mm,hA⟩:=zu8 (hT t _ ht).d hx
       have hgd:∀ (op:BinOp) (z:Operand),(eqGuard op t x z (a.eval x) (.slice none 0 0)).run P w = .ok () w:=by
        intro op z
        rw [hA]
        cases op<;>rfl
       have key:∀ (f:Bool→Bool),(bif l.isEmpty then both (k (.bool (f true)) h) (k (.bool (f false)) h) else k (.bool (f false)) h)=some r→k (.bool (f bb)) h=some r:=by
        intro f hh
        cases hl:l with
        | nil =>
         rw [hl] at hh
         obtain ⟨h1,h2⟩:=zn4 (by simpa using hh)
         cases bb
         · exact h2
         · exact h1
        | cons z zs =>
         rw [hl] at hh
         have:bb=false:=hl0 (by rw [hl]; simp)
         rw [this]
         simpa using hh
       rw [hA] at hr
       split at hk
       · refine Good.v st (v:=.bool bb) ?_ (.bool _) (key id hk)
         simp only [Sem.run_bind,hgd,Result.andThen_ok]
         rw [hA]
         simp [Go.binOp,hr]
       · refine Good.v st (v:=.bool (!bb)) ?_ (.bool _) (key (fun b => !b) hk)
         simp only [Sem.run_bind,hgd,Result.andThen_ok]
         rw [hA]
         simp [Go.binOp,hr]
       · cases hk
     · cases hk
   · rename_i aS bs hb hc
     rw [hb] at hx
     rw [hc] at hy
     split at hk
     · rename_i ti c ht hcc
       obtain ⟨hcmp,hk⟩:=zb hk
       simp only [Bool.and_eq_true] at hcmp
       obtain ⟨c1,c2⟩:=(hT t ti ht).cmp hcmp.1
       generalize a.eval x=xv at hx
       generalize a.eval y=yv at hy
       cases hx with
       | agg xs _ hl1 h1 =>
        cases hy with
        | agg ys _ hl2 h2 =>
         have hr:=c2 w G xs ys aS bs c hcmp.2 ⟨by simpa using hl1,fun i v cc hv hcv=>h1 i v cc (by simpa using hv) hcv⟩ ⟨by simpa using hl2,fun i v cc hv hcv=>h2 i v cc (by simpa using hv) hcv⟩ hcc
         split at hk
         · refine Good.v st (v:=.bool c) ?_ (.bool _) hk
           simp only [Sem.run_bind,run_eqGuard_agg _ _ _ _ _ _ _ c1,Result.andThen_ok]
           simp [Go.binOp,hr]
         · refine Good.v st (v:=.bool (!c)) ?_ (.bool _) hk
           simp only [Sem.run_bind,run_eqGuard_agg _ _ _ _ _ _ _ c1,Result.andThen_ok]
           simp [Go.binOp,hr]
         · cases hk
     · cases hk
   · obtain ⟨v,av,h1,h2,h3⟩:=zmu hT hx hy hk x y
     exact Good.v st h1 h2 h3
 · rename_i op _ x ho
   simp only [ho]
   obtain ⟨v,av,h1,h2,h3⟩:=zob (P:=P) (he.ev x) hk
   exact Good.v st h1 h2 h3
 · rename_i s d x ho
   simp only [ho]
   have hx:=he.ev x
   split at hk
   · rename_i hs hd hxx
     rw [hxx] at hx
     obtain ⟨hxv,_⟩:=zj hx
     rw [hxv]
     have h1:=(hT s _ hs).d
     have h2:=(hT d _ hd).d
     refine Good.v st ?_ (zai _ _) hk
     simp [convert,Sem.run_bind,run_underlying h1,run_underlying h2,Conv.intToInt]
   · rename_i hs hd hxx
     rw [hxx] at hx
     have h1:=(hT s _ hs).d
     have h2:=(hT d _ hd).d
     obtain ⟨bs,hxv,hb⟩:=zo hx
     rw [hxv]
     refine Good.v st (v:=.string bs) ?_ (.str _ _ hb.1 hb.2) hk
     simp [convert,Sem.run_bind,run_underlying h1,run_underlying h2]
   · rename_i hs hd hxx
     rw [hxx] at hx
     have h1:=(hT s _ hs).d
     have h2:=(hT d _ hd).d
     split at hk
     · rename_i hee
       obtain ⟨u,hr,hu⟩:=zjg h1 (hT _ _ hee).d h2 hx
       exact Good.v st hr hu hk
     · cases hk
   · rename_i hs hd hxx
     rw [hxx] at hx
     have h1:=(hT s _ hs).d
     have h2:=(hT d _ hd).d
     split at hk
     · rename_i hee
       obtain ⟨u,w',hr,hE⟩:=zjh st h1 (hT _ _ hee).d h2 hx hk
       exact Good.v' hr hE
     · cases hk
   · cases hk
 · rename_i t m x ho
   simp only [ho]
   split at hk
   · rename_i hs
     split at hk
     · rename_i hkk hee
       split at hk
       · rename_i rr a' hm hx
         split at hk
         · rename_i es hbx
           rw [zl] at hbx
           have hmx:=he.ev m
           have hxx:=he.ev x
           rw [hm] at hmx
           rw [hx] at hxx
           obtain ⟨hxv,_⟩:=zj hxx
           rw [hxv]
           generalize a.eval m=mv at hmx
           cases hmx with
           | mref _ b hb hv =>
            obtain ⟨_,ob,hh,hr⟩:=st.box _ _ _ hb hbx
            cases hr with
            | cells vs t0 _ h _=>exact absurd h (by intro hB; cases hB with | box _ hrow _ _=>simp [isRow] at hrow)
            | fm _ c _ =>
             obtain ⟨z,hz,_⟩:=zw (w:=w) (hT _ _ hee) (by simp)
             obtain ⟨v,g1,g2⟩:=zlc (G:=G) (hT _ _ hs).d (hT _ _ hkk).d hz hh a'
             rw [zqn] at hk
             cases hf:(es.find? fun p=>a'==p.1) with
             | none =>
              rw [hf] at hk g2
              exact Good.v st g1 g2 hk
             | some p =>
              rw [hf] at hk g2
              exact Good.v st g1 g2 hk
         · cases hk
       · cases hk
     · cases hk
   · cases hk
 · rename_i t l c ho
   simp only [ho]
   split at hk
   · rename_i et _ _ _ _ _ _ hs
     split at hk
     · rename_i ei hee
       split at hk
       · rename_i τ a b hty hl hc
         obtain ⟨hb,hk2⟩:=zb hk
         clear hk
         simp only [Bool.and_eq_true,decide_eq_true_eq,nbeq,nblt] at hb
         have hlx:=he.ev l
         have hcx:=he.ev c
         rw [hl] at hlx
         rw [hc] at hcx
         obtain ⟨hlv,_⟩:=zj hlx
         obtain ⟨hcv,_⟩:=zj hcx
         rw [hlv,hcv]
         obtain ⟨⟨h0,⟨h1,h2⟩,h3⟩,⟨h4,h5⟩,h6⟩:=hb
         subst h0
         obtain ⟨v,w',g1,g2⟩:=zmv hT st (hT _ _ hs).d hee h4 h5 h6 h1 h2 h3 hk2
         exact Good.v' g1 g2
       · cases hk
     · cases hk
   · cases hk
 · rename_i f first cap ho
   simp only [ho]
   refine Good.v st (v:=.func (.func f) (first.map a.eval) (cap.map a.eval)) (by simp [Instr.makeFunc]) ?_ hk
   refine .fn _ _ _ _ _ (by simp) (fun i v c hv hc => ?_) (by simp) (fun i v c hv hc => ?_)
   · simp only [Array.getElem?_map,List.getElem?_map,Array.getElem?_toList,Option.map_eq_some_iff] at hv hc
     obtain ⟨p,hp,rfl⟩:=hv
     obtain ⟨q,hq,rfl⟩:=hc
     rw [hp] at hq
     obtain rfl:=Option.some.inj hq
     exact he.ev p
   · simp only [Array.getElem?_map,List.getElem?_map,Array.getElem?_toList,Option.map_eq_some_iff] at hv hc
     obtain ⟨p,hp,rfl⟩:=hv
     obtain ⟨q,hq,rfl⟩:=hc
     rw [hp] at hq
     obtain rfl:=Option.some.inj hq
     exact he.ev p
 · rename_i t x lo hi mx ho
   simp only [ho]
   split at hk
   · rename_i ti ht
     obtain ⟨v,av,h1,h2,h3⟩:=zec hT ht he (he.ev x) hk
     exact Good.v st h1 h2 h3
   · cases hk
 · rename_i t x f ho
   simp only [ho]
   have hx:=he.ev x
   split at hk
   · rename_i fs _ _ _ _ _ _ ht
     split at hk
     · rename_i off ft hn
       split at hk
       · rename_i fi hfi
         obtain ⟨hc,hk⟩:=zb hk
         simp only [nblt] at hc
         obtain ⟨fields,fd,hu,hfd,ho1,ho2⟩:=zco hT ht rfl hn hfi
         have hsz:(sizeOf fd.type).run P w = .ok fi.size w:=by rw [ho2]; exact zq (hT ft fi hfi)
         have hrun:∀ (b oo:Nat),(Instr.fieldAt t (.pointer (some ⟨b,oo,none⟩)) f).run P w = .ok (.pointer (some ⟨b,oo+off,none⟩)) w:=by
          intro b oo
          have hne:fi.size≠0:=by omega
          simp [Instr.fieldAt,Sem.run_bind,run_underlying hu,hfd,Instr.sureAddr,fieldPlace,hsz,hne,addp,ho1]
         split at hk
         · rename_i q oo hq
           rw [hq] at hx
           generalize a.eval x=xv at hx
           cases hx with
           | ref _ _ b hb hv=>exact Good.v st (hrun b oo) (.ref _ _ _ hb hv) hk
         · rename_i cs hq
           rw [hq] at hx
           generalize a.eval x=xv at hx
           cases hx with
           | imm b oo us _ hl hm hr =>
            refine Good.v st (hrun b oo) (.imm _ _ (us.drop off) _ ?_ (fun i u hu' => ?_) (fun i u c hu' hc' => ?_)) hk
            · rw [za4]; simp [hl]
            · rw [List.getElem?_drop] at hu'
              have:=hm (off+i) u hu'
              rw [show oo+off+i=oo+(off+i) from by omega]
              exact this
            · rw [za4,List.getElem?_drop] at hc'
              rw [List.getElem?_drop] at hu'
              exact hr _ u c hu' hc'
         · cases hk
       · cases hk
     · cases hk
   · cases hk
 · rename_i t x f ho
   simp only [ho]
   have hx:=he.ev x
   split at hk
   · rename_i fs _ _ _ _ _ _ ht
     split at hk
     · rename_i off ft hn
       split at hk
       · rename_i fi cs hfi hcs
         obtain ⟨fields,fd,hu,hfd,ho1,ho2⟩:=zco hT ht rfl hn hfi
         rw [hcs] at hx
         generalize a.eval x=xv at hx
         cases hx with
         | agg vs _ hl h1 =>
          split at hk
          · rename_i ds hds
            split at hk
            · rename_i v hv
              rw [za4] at hds
              obtain ⟨u,hr,hu'⟩:=zje (w:=w) (G:=G) (hT ft fi hfi) (cs:=vs) (aS:=cs) ⟨by simpa using hl,fun i v c hv hc=>h1 i v c (by simpa using hv) hc⟩ hds hv
              refine Good.v st (v:=u) ?_ hu' hk
              simp [Instr.field,Sem.run_bind,run_underlying hu,hfd,asAgg,ho2,ho1,hr]
            · cases hk
          · cases hk
       · cases hk
     · cases hk
   · cases hk
 · rename_i t x i ho
   simp only [ho]
   have hx:=he.ev x
   have hi:=he.ev i
   split at hk
   · rename_i et _ _ _ _ _ _ ht
     split at hk
     · rename_i ti hei
       split at hk
       · rename_i τ l c q n hxx hii
         have hk':=zb hk
         clear hk
         obtain ⟨hc,hk⟩:=hk'
         simp only [nbeq] at hc
         rw [hxx] at hx
         rw [hii] at hi
         obtain ⟨hiv,_⟩:=zj hi
         rw [hiv]
         cases hidx:idx l n with
         | none=>rw [hidx] at hk; simp at hk
         | some el =>
          rw [hidx] at hk
          simp only [Option.bind_some] at hk
          obtain ⟨m,rfl,hm,hel⟩:=zdb hidx
          have hu:=(hT t _ ht).d
          obtain ⟨A,cap,hxv,hlc,hrep,_⟩:=zcc hx
          rw [hxv]
          simp only [RepC] at hrep
          obtain ⟨hl,A',c',us,hv,_,hrow,hmem⟩:=hrep
          simp only [List.cons.injEq,Value.slice.injEq,and_true,true_and] at hv
          obtain ⟨rfl,rfl⟩:=hv
          obtain ⟨b,oo,rfl,hmm⟩:=hmem (by omega)
          have hsz:=zq (w:=w) (hT et ti hei)
          have hrun:(Instr.indexAt t (.slice (some ⟨b,oo,none⟩) l.length cap) (.int q (m:Int))).run P w = .ok (.pointer (some ⟨b,oo+m*ti.size,none⟩)) w:=by
           simp [Instr.indexAt,asIntOf,Sem.run_bind,run_underlying hu,hsz,addp,hm]
          have hpe:=RowOf.at (sz:=τ.size) (fun x vs hx=>zu hx) hrow m el hel
          have hcells:=zax (w:=w) (G:=G) τ el _ hpe
          refine Good.v st hrun (.imm _ _ ((us.drop (m*τ.size)).take τ.size) _ hcells.1 (fun j u hj => ?_) (fun j u c hj hcj=>hcells.2 j u c hj hcj)) hk
          rw [List.getElem?_take] at hj
          split at hj
          · rw [List.getElem?_drop] at hj
            rw [hc,Nat.add_assoc]
            exact hmm _ u hj
          · cases hj
       · rename_i n cs q i' hxx hii
         have hk':=zb hk
         clear hk
         obtain ⟨hc,hk⟩:=hk'
         rw [hxx] at hx
         rw [hii] at hi
         obtain ⟨hiv,_⟩:=zj hi
         rw [hiv]
         obtain ⟨m,rfl,hm,hk⟩:=zh1 n 0 cs hk
         rw [Nat.zero_add]
         obtain ⟨v,h1,h2⟩:=zmw (hT t _ ht).d (hT et ti hei) hx (q:=q) hm
         exact Good.v st h1 h2 hk
       · cases hk
     · cases hk
   · rename_i n et _ _ _ _ _ _ ht
     split at hk
     · rename_i ti hei
       split at hk
       · rename_i r o q i' hxx hii
         rw [hxx] at hx
         rw [hii] at hi
         obtain ⟨hiv,_⟩:=zj hi
         rw [hiv]
         generalize a.eval x=xv at hx
         cases hx with
         | ref _ _ b hb hv0 =>
          have hu:=(hT t _ ht).d
          have hsz:=zq (w:=w) (hT et ti hei)
          obtain ⟨m,rfl,hm,hk,_⟩:=zh2 n 0 r o hk
          have hrun:(Instr.indexAt t (.pointer (some ⟨b,o,none⟩)) (.int q (m:Int))).run P w = .ok (.pointer (some ⟨b,o+m*ti.size,none⟩)) w:=by
           have hm':m<n:=by omega
           simp [Instr.indexAt,asIntOf,Sem.run_bind,run_underlying hu,hsz,addp,hm',Instr.sureAddr]
          refine Good.v st hrun (.ref r _ b hb hv0) ?_
          simpa using hk
       · cases hk
     · cases hk
   · cases hk
 · rename_i t x i ho
   simp only [ho]
   have hx:=he.ev x
   have hi:=he.ev i
   split at hk
   · rename_i s q n hxx hii
     split at hk
     · rename_i ht
       rw [hxx] at hx
       rw [hii] at hi
       obtain ⟨hiv,_⟩:=zj hi
       rw [hiv]
       obtain ⟨bs,hxv,hb,_⟩:=zo hx
       rw [hxv]
       have hu:=(hT t _ ht).d
       cases hidx:idx s n with
       | none=>rw [hidx] at hk; simp at hk
       | some el =>
        rw [hidx] at hk
        simp only [Option.bind_some] at hk
        obtain ⟨m,rfl,hm,hel⟩:=zdb hidx
        refine Good.v st (v:=.int .u8 el.toNat) ?_ (.int _ _ fun _=>⟨by omega,by have:=el.toNat_lt; omega⟩) hk
        have hbe:bs[m]? = some el:=by
         subst hb
         rw [← hel]
         have hsz:bs.size=bs.data.toList.length:=zav bs
         have:m<bs.size:=by omega
         rw [getElem?_pos bs m this]
         rw [List.getElem?_eq_getElem hm]
         rfl
        simp [Instr.index,asIntOf,Sem.run_bind,run_underlying hu,hbe]
     · cases hk
   · rename_i cs q n hxx hii
     split at hk
     · rename_i len et _ _ _ _ _ _ ht
       split at hk
       · rename_i ei hei
         rw [hxx] at hx
         rw [hii] at hi
         obtain ⟨hiv,_⟩:=zj hi
         rw [hiv]
         generalize a.eval x=xv at hx
         have hu:=(hT t _ ht).d
         cases hx with
         | agg vs _ hl h1 =>
          have hR:RepL w G vs.toList cs:=⟨by simpa using hl,fun i v c hv hc=>h1 i v c (by simpa using hv) hc⟩
          obtain ⟨m,rfl,hm,u,v,hr,hu',hk⟩:=zgn (P:=P) (w:=w) (G:=G) (hT et ei hei) (cs:=vs) len 0 cs (by simpa using hR) hk
          refine Good.v st (v:=u) ?_ hu' hk
          have hsz:=zq (w:=w) (hT et ei hei)
          have hm':m<len:=by omega
          simp [Instr.index,asIntOf,Sem.run_bind,run_underlying hu,hsz,hr,hm']
       · cases hk
     · cases hk
   · cases hk
 · rename_i t i ho
   simp only [ho]
   have hx:=he.ev t
   split at hk
   · rename_i vs hvs
     split at hk
     · rename_i v hv
       rw [hvs] at hx
       generalize a.eval t=xv at hx
       cases hx with
       | tup us _ hl h1 =>
        rw [zl] at hv
        have hlt:i<us.size:=by
         have:=(List.getElem?_eq_some_iff.1 hv).1
         omega
        have hus:us[i]? = some us[i]:=Array.getElem?_eq_getElem hlt
        refine Good.v st (v:=us[i]) ?_ (h1 i _ v hus hv) hk
        simp [Instr.extract,hus]
     · cases hk
   · cases hk
 · rename_i c ho
   simp only [ho]
   split at hk
   · rename_i b hb
     have hargs:RepL w G (c.args.map a.eval).toList (evs cx e c.argTypes.toList c.args.toList):=by
      rw [Array.toList_map]
      exact zcu cx he _ _
     have hg:∀ cs,Good P B0 w0 G w k r ((builtin b c.argTypes o.type cs (c.args.map a.eval)).run P w):=fun cs=>zee hT st hargs hk
     simp only [resolve,hb,Sem.run_bind,Sem.run_pure,Result.andThen_ok,invoke]
     exact hg _
   · rename_i f hf
     exact absurd hf (hnc c f ho)
   · cases hk
 · cases hk
end
end Go.AM
set_option linter.unusedVariables false
set_option linter.unusedSimpArgs false
namespace Go.AM
open Go.RowKit
section
variable {P:Program} {w:World} {G:GS}
theorem zad {G0 G:GS} (h:Ext G0.base G0 G):G0.base.le G.base:=by
 have key:∀ {α:Type} (a b:List α),(∀ r,r<a.length→∃ x,b[r]? = some x)→a.length≤b.length:=by
  intro α a b h
  by_cases h0:a.length=0
  · omega
  · obtain ⟨x,hx⟩:=h (a.length - 1) (by omega)
    have:=(List.getElem?_eq_some_iff.1 hx).1
    omega
 refine ⟨key _ _ fun r hr=>by
  rcases h.bx r hr with ⟨e,_⟩ | ⟨_,_,b,e⟩ | ⟨_,_,b,e⟩
  · exact ⟨_,e.trans (List.getElem?_eq_getElem hr)⟩
  · exact ⟨b,e⟩
  · exact ⟨b,e⟩,key _ _ fun t ht => ?_,key _ _ fun j hj=>⟨_,(h.lp j hj).trans (List.getElem?_eq_getElem hj)⟩⟩
 obtain ⟨o,o',_,h2,_⟩:=h.tk t ht
 exact ⟨_,h2⟩
theorem zcp {a b:Ty} {l:List a.den} {m:List b.den} (h:castSl a b l=some m):∃ e:a=b,m=e▸l:=by
 unfold castSl at h
 split at h
 · rename_i hb
   exact ⟨Ty.beq_eq _ _ hb,(Option.some.inj h).symm⟩
 · cases h
theorem zv {X:Type} {h:H} {r v:Nat} {τ:Ty} {k:List τ.den→Option X} {x:X} (hk:rowK h r v τ k=some x):∃ l,h.bx[r]? = some [.row v τ l]∧k l=some x∧∀ (h2:H) (k2:List τ.den→Option X),h2.bx[r]? = some [.row v τ l]→rowK h2 r v τ k2=k2 l:=by
 unfold rowK at hk
 rw [zl] at hk
 split at hk
 · rename_i cs hcs
   split at hk
   · rename_i v' τ' l
     split at hk
     · rename_i l' hl
       have hk1:=(zb hk).1
       have hk2:=(zb hk).2
       clear hk
       rw [nbeq] at hk1
       subst hk1
       obtain ⟨e,rfl⟩:=zcp hl
       subst e
       refine ⟨l,hcs,hk2,fun h2 k2 h3 => ?_⟩
       unfold rowK
       rw [zl,h3]
       simp only [hl,Nat.beq_refl,cond_true]
     · cases hk
   · cases hk
 · cases hk
structure RowAt (B0:Nat) (w:World) (G:GS) (r v:Nat) (τ:Ty) (l:List τ.den) (q:Option Nat) (cap:Nat):Prop where
 hb:G.bx[r]? = some q
 hv:G.bv r=⟨v,l.length,cap,τ.size⟩
 v0:0<v
 z0:0<τ.size
 lc:l.length≤cap
 lm:l.length≤strMax
 wh:(q=none∧l=[]∧cap=0)∨∃ b vs t,q=some b∧B0≤b∧w.heap[b]? = some (.cells vs t (0,0))∧vs.size=cap*τ.size∧RowOf (fun x us=>RepC w G.D τ x us) l (vs.toList.take (l.length*τ.size))
 tg:∀ b vs t,q=some b→w.heap[b]? = some (.cells vs t (0,0))→tagOK τ t=true
 v1:v=1→cap=l.length
theorem zcv {r v n:Nat} {τ:Ty} {x:Value} (h:RepV w G x (.ms r v n τ)):0<v:=by cases h; assumption
theorem zoe {r v off:Nat} {i:Int} {τ:Ty} {x:Value} (h:RepV w G x (.ep r v i off τ)):0<v:=by cases h; assumption
theorem St.rowAt {B0:Nat} {w0:Wd} {h:H} (s:St B0 w0 G h w) {r v:Nat} {τ:Ty} {l:List τ.den} (hq:h.bx[r]? = some [.row v τ l]) (hv0:0<v):∃ q cap,RowAt B0 w G r v τ l q cap:=by
 have hr:r<G.bx.length:=by rw [← s.bxl]; exact (List.getElem?_eq_some_iff.1 hq).1
 have hb:G.bx[r]? = some G.bx[r]:=List.getElem?_eq_getElem hr
 generalize G.bx[r]=q at hb
 cases q with
 | none =>
  rcases s.virt r _ hb hq with ⟨v',τ',e,h0,hz,hv⟩ | ⟨e,e0⟩
  case inr =>
   simp only [hole,List.cons.injEq,AV.row.injEq,and_true] at e
   omega
  simp only [List.cons.injEq,AV.row.injEq,and_true] at e
  obtain ⟨rfl,rfl,e⟩:=e
  have e:=eq_of_heq e
  subst e
  exact ⟨none,0,hb,hv,h0,hz,Nat.le_refl _,Nat.zero_le _,.inl ⟨rfl,rfl,rfl⟩,fun b _ _ e=>(by cases e),fun _=>rfl⟩
 | some b =>
  obtain ⟨hB,ob,hh,hR⟩:=s.box r b _ hb hq
  obtain ⟨vs,t,rfl,hR,hty⟩:=hR.row
  generalize hcs:[AV.row v τ l]=cs at hR
  cases hR with
  | box _ hn _ _=>subst hcs; cases hn
  | row v' τ' l' cap h0 hv hz hc hm hs hl h1 =>
   simp only [List.cons.injEq,AV.row.injEq,and_true] at hcs
   obtain ⟨rfl,rfl,e⟩:=hcs
   have e:=eq_of_heq e
   subst e
   exact ⟨some b,cap,hb,hv,h0,hz,hc,hm,.inr ⟨b,vs,t,rfl,hB,hh,by simpa using hs,hl⟩,fun b' vs' t' e h'=>by
    obtain rfl:=Option.some.inj e
    rw [hh] at h'
    cases h'
    exact hty,h1⟩
theorem RowAt.ms {B0 r v n cap:Nat} {τ:Ty} {l:List τ.den} {q:Option Nat} (R:RowAt B0 w G r v τ l q cap) {x:Value} (hx:RepV w G x (.ms r v n τ)):n=l.length∧∃ A,x = .slice A l.length cap∧∀ b,q=some b→A=some ⟨b,0,none⟩:=by
 cases hx with
 | ms _ _ _ _ _ h0 hs h =>
  obtain ⟨q',hb,hle,hcur⟩:=h
  rw [R.hb] at hb
  obtain rfl:=Option.some.inj hb
  rw [R.hv] at hcur
  obtain ⟨_,hn,A,hA,hAb⟩:=hcur rfl
  simp only at hn hA
  subst hn
  exact ⟨rfl,A,hA,hAb⟩
theorem RowAt.ep {B0 r v off cap:Nat} {i:Int} {τ:Ty} {l:List τ.den} {q:Option Nat} (R:RowAt B0 w G r v τ l q cap) {x:Value} (hx:RepV w G x (.ep r v i off τ)) :
 0≤i∧i<l.length∧∃ b vs t,q=some b∧x = .pointer (some ⟨b,i.toNat*τ.size+off,none⟩)∧B0≤b∧w.heap[b]? = some (.cells vs t (0,0))∧vs.size=cap*τ.size∧RowOf (fun x us=>RepC w G.D τ x us) l (vs.toList.take (l.length*τ.size)):=by
 cases hx with
 | ep _ _ _ _ _ _ h0 hs h =>
  obtain ⟨q',hb,hle,hcur⟩:=h
  rw [R.hb] at hb
  obtain rfl:=Option.some.inj hb
  rw [R.hv] at hcur
  obtain ⟨_,h1,h2,h3⟩:=hcur rfl
  simp only at h2
  refine ⟨h1,h2,?_⟩
  rcases R.wh with ⟨_,e,_⟩ | ⟨b,vs,t,e,hB,hh,hs,hl⟩
  · subst e; simp at h2; omega
  · exact ⟨b,vs,t,e,h3 b e,hB,hh,hs,hl⟩
theorem zl0 {r:Nat} {g:BvG} {q:Option Nat} {D':Nat→Nat→Prop} (hD:∀ b o,G.D b o→D' b o) (hr:r<G.bx.length) (h0:0<(G.bv r).v) (h1:(G.bv r).v<g.v) :
 Ext G.base G { G with D:=D',bx:=G.bx.set r q,bv:=fun x=>if x=r then g else G.bv x }:=
 { D := hD
   bx:=fun x _=>by
    by_cases hx:x=r
    · subst hx
      exact .inr (.inl ⟨h0,by simp only [if_pos]; exact h1,q,by simp [hr]⟩)
    · exact .inl ⟨by simp only [List.getElem?_set,Ne.symm hx,if_false],by simp only [hx,if_false]⟩
   tk:=(Ext.refl (Base.le_refl _)).tk
   lp:=fun _ _=>rfl
   df:=rfl }
theorem St.freeze {B0:Nat} {w0:Wd} {h:H} (s:St B0 w0 G h w) {r v n:Nat} {τ:Ty} {l:List τ.den} (hq:h.bx[r]? = some [.row v τ l]) {x:Value} (hx:RepV w G x (.ms r v n τ)) :
 ∃ G',Ext G.base G G'∧St B0 w0 G' { h with bx:=upd h.bx r [.row (v+1) τ []] } w∧RepV w G' x (.sl τ l .unk)∧G'.bx=G.bx.set r none∧G'.tk=G.tk:=by
 obtain ⟨q,cap,R⟩:=s.rowAt hq (zcv hx)
 obtain ⟨rfl,A,rfl,hA⟩:=R.ms hx
 have hrl:r<G.bx.length:=(List.getElem?_eq_some_iff.1 R.hb).1
 have hrl':r<h.bx.length:=by rw [s.bxl]; exact hrl
 let D':Nat→Nat→Prop:=fun x o=>G.D x o∨(q=some x∧o<l.length*τ.size)
 have hDD:∀ b o,G.D b o→D' b o:=fun _ _ h => .inl h
 have hext:Ext G.base G { G with D:=D',bx:=G.bx.set r none,bv:=fun x=>if x=r then ⟨v+1,0,0,τ.size⟩ else G.bv x }:=
  zl0 hDD hrl (by rw [R.hv]; exact R.v0) (by rw [R.hv]; exact Nat.lt_succ_self v)
 have hnm:∀ b,some b∈G.bx.set r none→∃ x,x≠r∧G.bx[x]? = some (some b):=fun b hb=>by
  obtain ⟨x,hx⟩:=List.getElem?_of_mem hb
  rw [List.getElem?_set] at hx
  split at hx
  · simp [hrl] at hx
  · rename_i hne
    exact ⟨x,Ne.symm hne,hx⟩
 have hlcs:l.length*τ.size≤cap*τ.size:=Nat.mul_le_mul_right _ R.lc
 refine ⟨_,hext,?_,?_,rfl,rfl⟩
 · exact
   { below := s.below
     b0:=s.b0
     bxl:=by simp [zk,s.bxl]
     box := fun x b cs h1 h2=>by
      simp only [zk,List.getElem?_set] at h1 h2
      by_cases hxr:r=x
      · subst hxr
        simp [hrl] at h1
      · rw [if_neg hxr] at h1 h2
        obtain ⟨hB,ob,hh,hr⟩:=s.box x b cs h1 h2
        exact ⟨hB,ob,hh,hr.keep hext (Keep.refl _ _) (by simp [Ne.symm hxr])⟩
     virt:=fun x cs h1 h2=>by
      simp only [zk,List.getElem?_set] at h1 h2
      by_cases hxr:r=x
      · subst hxr
        rw [if_pos rfl,if_pos hrl'] at h2
        exact .inl ⟨v+1,τ,(Option.some.inj h2).symm,Nat.succ_pos v,R.z0,by simp⟩
      · rw [if_neg hxr] at h1 h2
        rcases s.virt x cs h1 h2 with ⟨v',τ',e1,e2,e3,e4⟩ | ⟨e1,e2⟩
        · exact .inl ⟨v',τ',e1,e2,e3,by simp only [Ne.symm hxr,if_false]; exact e4⟩
        · exact .inr ⟨e1,by simp only [Ne.symm hxr,if_false]; exact e2⟩
     inj := fun x x' b h1 h2=>by
      simp only [List.getElem?_set] at h1 h2
      by_cases hxr:r=x
      · subst hxr; simp [hrl] at h1
      · by_cases hxr':r=x'
        · subst hxr'; simp [hrl] at h2
        · rw [if_neg hxr] at h1
          rw [if_neg hxr'] at h2
          exact s.inj x x' b h1 h2
     dat := fun b o hd=>by
      rcases hd with hd | ⟨hqb,ho⟩
      · refine ⟨(s.dat b o hd).1,fun hm => ?_⟩
        obtain ⟨x,_,hx⟩:=hnm b hm
        exact (s.dat b o hd).2 (List.mem_of_getElem? hx)
      · refine ⟨?_,fun hm => ?_⟩
        · rcases R.wh with ⟨e,_⟩ | ⟨b',vs,t,e,hB,hh,hs,hl⟩
          · rw [e] at hqb; cases hqb
          · rw [e] at hqb
            obtain rfl:=Option.some.inj hqb
            rw [zr hh]
            exact ⟨vs[o]'(by omega),by simp [show o<vs.size from by omega]⟩
        · obtain ⟨x,hne,hx⟩:=hnm b hm
          have:=R.hb
          rw [hqb] at this
          exact hne (s.inj x r b hx this)
     dat0:=fun b o hd=>by
      rcases hd with hd | ⟨hqb,ho⟩
      · exact s.dat0 b o hd
      · rcases R.wh with ⟨e,_⟩ | ⟨b',vs,t,e,hB,_⟩
        · rw [e] at hqb; cases hqb
        · rw [e] at hqb
          obtain rfl:=Option.some.inj hqb
          exact .inr hB
     tkl:=s.tkl
     tok := fun t g ht=>by
      obtain ⟨h1,h2⟩:=s.tok t g ht
      refine ⟨h1,fun hlt => ?_⟩
      obtain ⟨b,hA,hB,hn,cs,et,fr,hh,hc,hi⟩:=h2 hlt
      refine ⟨b,hA,hB,fun hm => ?_,cs,et,fr,hh,hc,fun i i1 i2=>⟨fun hd => ?_,(hi i i1 i2).2⟩⟩
      · obtain ⟨x,_,hx⟩:=hnm b hm
        exact hn (List.mem_of_getElem? hx)
      · rcases hd with hd | ⟨hqb,_⟩
        · exact (hi i i1 i2).1 hd
        · have:=R.hb
          rw [hqb] at this
          exact hn (List.mem_of_getElem? this)
     tki:=s.tki
     lpl:=s.lpl
     loop:=s.loop
     lpi:=s.lpi
     dfr:=s.dfr
     dfn:=s.dfn }
 · refine .sl τ l .unk _ ?_ trivial
   simp only [RepC]
   rcases R.wh with ⟨e,e2,e3⟩ | ⟨b,vs,t,e,hB,hh,hs,hl⟩
   · subst e2
     exact ⟨R.lm,A,cap,[],rfl,R.lc,rfl,fun h=>absurd h (by simp)⟩
   · refine ⟨R.lm,A,cap,vs.toList.take (l.length*τ.size),rfl,R.lc,RowOf.mono _ _ (fun x _ us hx=>RepC.mono hDD (Keep.refl _ _) τ x us hx) hl,fun _=>⟨b,0,hA b e,fun j u hj => ?_⟩⟩
     rw [List.getElem?_take] at hj
     split at hj
     · rename_i hlt
       refine ⟨.inr ⟨e,by omega⟩,?_⟩
       rw [Nat.zero_add,zr hh,← Array.getElem?_toList]
       exact hj
     · cases hj
theorem zcg {X:Type} {B0:Nat} {w0:Wd} {h:H} (s:St B0 w0 G h w) {a:AV} {x:Value} (hx:RepV w G x a) {k:AV→H→Option X} {r:X} (hk:frzK a h k=some r) :
 ∃ a' G' h',Ext G.base G G'∧St B0 w0 G' h' w∧RepV w G' x a'∧k a' h'=some r:=by
 unfold frzK at hk
 split at hk
 · obtain ⟨l,hq,hk,_⟩:=zv hk
   obtain ⟨G',h1,h2,h3⟩:=s.freeze hq hx
   exact ⟨_,G',_,h1,h2,h3.1,hk⟩
 · exact ⟨a,G,h,Ext.refl (Base.le_refl _),s,hx,hk⟩
theorem zch {X:Type} {B0:Nat} {w0:Wd} {w:World}:∀ (vs:List AV) (xs:List Value) (G:GS) (h:H) (k:List AV→H→Option X) (r:X),St B0 w0 G h w→RepL w G xs vs→frzL vs h k=some r →
 ∃ vs' G' h',Ext G.base G G'∧St B0 w0 G' h' w∧RepL w G' xs vs'∧vs'.length=vs.length∧k vs' h'=some r
 | [],xs,G,h,k,r,s,hx,hk=>⟨[],G,h,Ext.refl (Base.le_refl _),s,hx,rfl,hk⟩
 | a::vs,[],G,h,k,r,s,hx,hk=>by have:=hx.1; simp at this
 | a::vs,x::xs,G,h,k,r,s,hx,hk=>by
  obtain ⟨h1,h2⟩:=hx.tail
  simp only [frzL] at hk
  obtain ⟨a',G1,h',e1,s1,r1,hk⟩:=zcg s h1 hk
  obtain ⟨vs',G2,h'',e2,s2,r2,hl,hk⟩:=zch vs xs G1 h' _ r s1 (h2.mono e1 (Keep.refl _ _)) hk
  exact ⟨a'::vs',G2,h'',e1.trans (e2.mono (zad e1)),s2,.cons (r1.mono e2 (Keep.refl _ _)) r2,by simp [hl],hk⟩
theorem St.virtRow {B0:Nat} {w0:Wd} {h:H} (s:St B0 w0 G h w) {τ:Ty} (hz:0<τ.size) :
 ∃ G',Ext G.base G G'∧St B0 w0 G' { h with bx:=h.bx++[[.row 1 τ []]] } w∧RepV w G' (.slice none 0 0) (.ms h.bx.length 1 0 τ):=by
 have hbv:∀ r,r<G.bx.length→(fun r=>if r=G.bx.length then (⟨1,0,0,τ.size⟩:BvG) else G.bv r) r=G.bv r:=fun r hr=>if_neg (by omega)
 have hx:Ext G.base G { G with bx:=G.bx++[none],bv:=fun r=>if r=G.bx.length then ⟨1,0,0,τ.size⟩ else G.bv r }:=
  { D := fun _ _ x=>x
    bx:=fun r hr=>by
     have:r<G.bx.length:=hr
     exact .inl ⟨by simp [List.getElem?_append_left this],hbv r this⟩
    tk:=(Ext.refl (Base.le_refl _)).tk
    lp:=fun _ _=>rfl
    df:=rfl }
 have hget:∀ (r b:Nat),(G.bx++[none])[r]? = some (some b)→G.bx[r]? = some (some b):=fun r b hr=>by
  by_cases h1:r<G.bx.length
  · rwa [List.getElem?_append_left h1] at hr
  · rw [List.getElem?_append_right (Nat.le_of_not_lt h1)] at hr
    have:=(List.getElem?_eq_some_iff.1 hr).1
    have e0:r - G.bx.length=0:=by simp at this; omega
    rw [e0] at hr
    simp at hr
 have hmem:∀ b,some b∈G.bx++[none]→some b∈G.bx:=fun b hb=>by simpa using hb
 refine ⟨_,hx,?_,?_⟩
 · exact
   { below:=s.below
     b0:=s.b0
     bxl:=by simp [s.bxl]
     box:=fun r b cs h1 h2=>by
      have h1:=hget r b h1
      have hr:r<G.bx.length:=(List.getElem?_eq_some_iff.1 h1).1
      simp only [List.getElem?_append_left (by rw [s.bxl]; exact hr:r<h.bx.length)] at h2
      obtain ⟨hB,ob,hh,hrr⟩:=s.box r b cs h1 h2
      exact ⟨hB,ob,hh,hrr.keep hx (Keep.refl _ _) (hbv r hr)⟩
     virt:=fun r cs h1 h2=>by
      by_cases hr:r<G.bx.length
      · simp only [List.getElem?_append_left hr] at h1
        simp only [List.getElem?_append_left (by rw [s.bxl]; exact hr:r<h.bx.length)] at h2
        rcases s.virt r cs h1 h2 with ⟨v,τ',e1,e2,e3,e4⟩ | ⟨e1,e2⟩
        · exact .inl ⟨v,τ',e1,e2,e3,(hbv r hr).trans e4⟩
        · exact .inr ⟨e1,(congrArg BvG.v (hbv r hr)).trans e2⟩
      · simp only [List.getElem?_append_right (by rw [s.bxl]; exact Nat.le_of_not_lt hr:h.bx.length≤r)] at h2
        have hr':=(List.getElem?_eq_some_iff.1 h1).1
        have e0:r - h.bx.length=0:=by simp at hr'; rw [s.bxl]; omega
        rw [e0] at h2
        simp at h2
        subst h2
        have er:r=G.bx.length:=by simp at hr'; omega
        exact .inl ⟨1,τ,rfl,Nat.one_pos,hz,by rw [er]; simp⟩
     inj:=fun r r' b h1 h2=>s.inj r r' b (hget r b h1) (hget r' b h2)
     dat:=fun b o hd=>⟨(s.dat b o hd).1,fun hm=>(s.dat b o hd).2 (hmem b hm)⟩
     dat0:=s.dat0
     tkl:=s.tkl
     tok:=fun t g ht=>by
      obtain ⟨h1,h2⟩:=s.tok t g ht
      refine ⟨h1,fun hlt => ?_⟩
      obtain ⟨b,hA,hB,hn,rest⟩:=h2 hlt
      exact ⟨b,hA,hB,fun hm=>hn (hmem b hm),rest⟩
     tki:=s.tki
     lpl:=s.lpl
     loop:=s.loop
     lpi:=s.lpi
     dfr:=s.dfr
     dfn:=s.dfn }
 · refine .ms _ _ _ _ _ Nat.one_pos ⟨none,0,rfl,fun h=>absurd h (by omega)⟩ ⟨none,by simp [s.bxl],?_,fun _=>⟨?_,?_,none,?_,fun b hb=>by cases hb⟩⟩
   · rw [s.bxl]; simp
   · rw [s.bxl]; simp
   · rw [s.bxl]; simp
   · rw [s.bxl]; simp
end
end Go.AM
set_option linter.unusedVariables false
set_option linter.unusedSimpArgs false
namespace Go.AM
open Go.RowKit
section
variable {P:Program} {w:World} {G:GS}
theorem zqr {B0:Nat} {w0:Wd} {h:H} (s:St B0 w0 G h w) {t:Nat} {ti:TI} (hti:TiOK P t ti) {r v off:Nat} {i:Int} {τ:Ty} {l:List τ.den} {x:Value} (hx:RepV w G x (.ep r v i off τ)) (hq:h.bx[r]? = some [.row v τ l])
 {el:τ.den} (hi:idx l i=some el) {cs:List AV} (hc:takeN ti.size (dropN off (τ.cells el))=some cs) {av:AV} (hm:mkVal ti.agg cs=some av):∃ u,(Instr.loadAt t x).run P w = .ok u w∧RepV w G u av:=by
 obtain ⟨q,cap,R⟩:=s.rowAt hq (zoe hx)
 obtain ⟨h0,h1,b,vs,ty,_,rfl,hB,hh,hs,hrow⟩:=R.ep hx
 obtain ⟨m,rfl,hml,hel⟩:=zdb hi
 simp only [Int.toNat_natCast]
 have hpe:=RowOf.at (sz:=τ.size) (fun x vs hx=>zu hx) hrow m el hel
 have hcells:=zax (w:=w) (G:=G) τ el _ hpe
 rw [za4] at hc
 obtain ⟨e1,e2⟩:=zbr _ _ _ hc
 have hR:=(hcells.drop off).take ti.size
 rw [← e1] at hR
 have hlen:=hR.1
 rw [e2] at hlen
 obtain ⟨u,hu,hrep⟩:=zca (w:=w) (G:=G) hti (b:=b) (o:=m*τ.size+off) hlen (fun j u hj=>by
  rw [zr hh,← Array.getElem?_toList]
  simp only [List.getElem?_take,List.getElem?_drop] at hj
  split at hj
  · split at hj
    · split at hj
      · rw [← hj]; congr 1; omega
      · cases hj
    · cases hj
  · cases hj) hR hm
 refine ⟨u,?_,hrep⟩
 simp only [Instr.loadAt,Instr.sureAddr,Sem.run_bind,Sem.run_pure,Result.andThen_ok]
 exact hu
theorem zmx {α:Type} (A Y:List α) (M S off L:Nat) (h1:off+Y.length≤S) (h2:M+S≤L) (h3:L≤A.length) :
 (A.take (M+off)++Y++A.drop (M+off+Y.length)).take L=(A.take L).take M++((((A.take L).drop M).take S).take off++Y++(((A.take L).drop M).take S).drop (off+Y.length))++(A.take L).drop (M+S):=by
 apply List.ext_getElem?
 intro j
 have e1:(A.take (M+off)).length=M+off:=by simp; omega
 have e2:((A.take L).take M).length=M:=by simp; omega
 have e3:((((A.take L).drop M).take S).take off).length=off:=by simp; omega
 have e4:((((A.take L).drop M).take S).drop (off+Y.length)).length=S - (off+Y.length):=by simp; omega
 have e5:(A.take (M+off)++Y).length=M+off+Y.length:=by simp; omega
 have e6:((((A.take L).drop M).take S).take off++Y).length=off+Y.length:=by rw [List.length_append,e3]
 have e7:((((A.take L).drop M).take S).take off++Y++(((A.take L).drop M).take S).drop (off+Y.length)).length=S:=by rw [List.length_append,e6,e4]; omega
 have e8:((A.take L).take M++((((A.take L).drop M).take S).take off++Y++(((A.take L).drop M).take S).drop (off+Y.length))).length=M+S:=by rw [List.length_append,e2,e7]
 rw [List.getElem?_take]
 by_cases hj:j<L
 · rw [if_pos hj]
   by_cases c1:j<M
   · rw [List.getElem?_append_left (by omega),List.getElem?_append_left (by omega),List.getElem?_append_left (by omega),List.getElem?_append_left (by omega)]
     simp only [List.getElem?_take]
     rw [if_pos (by omega),if_pos c1,if_pos hj]
   · by_cases c2:j<M+S
     · rw [List.getElem?_append_left (l₁:=(A.take L).take M++_) (by omega),List.getElem?_append_right (by omega:((A.take L).take M).length≤j),e2]
       by_cases c3:j<M+off
       · rw [List.getElem?_append_left (by omega),List.getElem?_append_left (by omega),List.getElem?_append_left (by omega),List.getElem?_append_left (by omega)]
         simp only [List.getElem?_take,List.getElem?_drop]
         rw [if_pos c3,if_pos (by omega),if_pos (by omega),if_pos (by omega)]
         congr 1; omega
       · by_cases c4:j<M+off+Y.length
         · rw [List.getElem?_append_left (by omega),List.getElem?_append_right (by omega),List.getElem?_append_left (by omega),List.getElem?_append_right (by omega),e1,e3]
           congr 1; omega
         · rw [List.getElem?_append_right (by omega),List.getElem?_append_right (by omega),e5,e6]
           simp only [List.getElem?_take,List.getElem?_drop]
           rw [if_pos (by omega),if_pos (by omega)]
           congr 1; omega
     · rw [List.getElem?_append_right (by omega),List.getElem?_append_right (by omega),e5,e8]
       simp only [List.getElem?_take,List.getElem?_drop]
       rw [if_pos (by omega)]
       congr 1; omega
 · rw [if_neg hj,List.getElem?_append_right (by omega),e8]
   simp only [List.getElem?_take,List.getElem?_drop]
   rw [if_neg (by omega)]
theorem RowOf.set {α:Type} {p:α→List Value→Prop} {sz:Nat} (hp:∀ x vs,p x vs→vs.length=sz) {z:α} {vz:List Value} (hz:p z vz):∀ {l:List α} {us:List Value},RowOf p l us→∀ (i:Nat),i<l.length→RowOf p (l.set i z) (us.take (i*sz)++vz++us.drop (i*sz+sz))
 | [],us,h,i,hi=>by simp at hi
 | y::l,us,h,0,hi=>by
  obtain ⟨v1,v2,rfl,h1,h2⟩:=h
  refine ⟨vz,v2,?_,hz,h2⟩
  have:=hp _ _ h1
  simp [← this]
 | y::l,us,h,i+1,hi=>by
  obtain ⟨v1,v2,rfl,h1,h2⟩:=h
  have h0:=hp _ _ h1
  refine ⟨v1,v2.take (i*sz)++vz++v2.drop (i*sz+sz),?_,h1,RowOf.set hp hz h2 i (by simpa using hi)⟩
  rw [show (i+1)*sz=v1.length+i*sz from by rw [Nat.add_mul,h0]; omega]
  rw [List.take_append,List.take_of_length_le (Nat.le_add_right _ _),Nat.add_assoc,List.drop_append,List.drop_eq_nil_of_le (Nat.le_add_right _ _)]
  simp [List.append_assoc]
theorem zof {B0:Nat} {w0:Wd} {h:H} (s:St B0 w0 G h w) {t:Nat} {ti:TI} (hti:TiOK P t ti) {r v off:Nat} {i:Int} {τ:Ty} {l:List τ.den} {x y:Value} (hx:RepV w G x (.ep r v i off τ)) (hq:h.bx[r]? = some [.row v τ l])
 {c:AV} (hy:RepV w G y c) (hlen:(cellsOf c).length=ti.size) (hone:oneL (cellsOf c)=true) (hpos:0<ti.size) {el:τ.den} (hi:idx l i=some el) {ds:List AV} (hsp:splice off (cellsOf c) (τ.cells el)=some ds) {z:τ.den} (hof:τ.of ds=some (z,[])) :
 ∃ w',(Instr.storeAt t x y).run P w = .ok () w'∧Keep G.D w w'∧St B0 w0 G { h with bx:=upd h.bx r [.row v τ (upd l i.toNat z)] } w':=by
 obtain ⟨q,cap,R⟩:=s.rowAt hq (zoe hx)
 obtain ⟨h0,h1,b,vs,ty,hqb,rfl,hB,hh,hs,hrow⟩:=R.ep hx
 obtain ⟨m,rfl,hml,hel⟩:=zdb hi
 simp only [Int.toNat_natCast]
 have hne:c ≠ .any:=zau (by omega)
 have hR:=za5 hy hne
 have hone':=zfy hR hone
 have hyl:y.cells.toList.length=ti.size:=by rw [hR.1,hlen]
 have hpe:=RowOf.at (sz:=τ.size) (fun x vs hx=>zu hx) hrow m el hel
 have hcells:=zax (w:=w) (G:=G) τ el _ hpe
 have hel_len:=zu hpe
 rcases zbv _ _ _ _ hsp with ⟨hle,hds⟩ | ⟨hc0,_⟩
 · have hcl:(τ.cells el).length=τ.size:=by rw [← hcells.1]; exact hel_len
   have hms:m*τ.size+τ.size≤l.length*τ.size:=by
    have:=Nat.mul_le_mul_right τ.size (show m+1≤l.length from hml)
    rw [Nat.add_mul,Nat.one_mul] at this
    exact this
   have hlc:l.length*τ.size≤cap*τ.size:=Nat.mul_le_mul_right _ R.lc
   have hrun:=zaf (P:=P) b (m*τ.size+off) ty (0,0) y.cells.toList 0 vs w hh (fun j _=>by simp [World.frozen?,hh]) (by rw [hyl]; omega) hone'
   simp only [Nat.add_zero] at hrun
   generalize hnv:(vs.toList.take (m*τ.size+off)++y.cells.toList++vs.toList.drop (m*τ.size+off+y.cells.toList.length)).toArray=nv at hrun
   have hnvl:nv.toList=vs.toList.take (m*τ.size+off)++y.cells.toList++vs.toList.drop (m*τ.size+off+y.cells.toList.length):=by rw [← hnv]
   have hnvs:nv.size=vs.size:=by
    rw [← hnv]; simp only [List.size_toArray,List.length_append,List.length_take,List.length_drop,Array.length_toList,hyl]; omega
   have hbq:G.bx[r]? = some (some b):=by rw [R.hb,hqb]
   have hx0:Ext G.base G G:=Ext.refl (Base.le_refl _)
   have hb0:isRow (cellsOf c)=false:=hR.noRow
   obtain ⟨hk,hst⟩:=s.setBox (ds:=[.row v τ (upd l m z)]) hbq hh hB hnvs (fun hk=>by
    refine .row _ v τ (upd l m z) cap R.v0 (by rw [zk,List.length_set]; exact R.hv) R.z0 (by rw [zk,List.length_set]; exact R.lc) (by rw [zk,List.length_set]; exact R.lm) (by rw [Array.length_toList,hnvs,hs]) ?_ (fun e=>by rw [zk,List.length_set]; exact R.v1 e)
    rw [zk,List.length_set,hnvl,zmx _ _ (m*τ.size) τ.size off (l.length*τ.size) (by rw [hyl]; omega) hms (by have e9:vs.toList.length=vs.size:=Array.length_toList; omega)]
    have hnew:RepC w G.D τ z ((((vs.toList.take (l.length*τ.size)).drop (m*τ.size)).take τ.size).take off++y.cells.toList++(((vs.toList.take (l.length*τ.size)).drop (m*τ.size)).take τ.size).drop (off+y.cells.toList.length)):=by
     have e1:=((hcells.take off).append hR).append (hcells.drop (off+(cellsOf c).length))
     rw [← hds,← hR.1] at e1
     obtain ⟨v1,v2,e2,e3,e4⟩:=zeb τ _ _ _ _ e1 hof
     have:v2=[]:=List.eq_nil_of_length_eq_zero e4.1
     rw [this,List.append_nil] at e2
     rw [e2]
     exact e3
    refine RowOf.mono _ _ (fun x _ us hx=>RepC.mono (fun _ _ hd=>hd) hk τ x us hx) ?_
    exact RowOf.set (p:=fun x us=>RepC w G.D τ x us) (sz:=τ.size) (fun x vs hx=>zu hx) hnew hrow m hml) (zbq (R.tg b vs ty hqb hh))
   refine ⟨w.setRow b nv,?_,hk,hst⟩
   simp only [Instr.storeAt,Instr.sureAddr,storeVar,Sem.run_bind,Sem.run_pure,Result.andThen_ok,zq hti]
   rw [if_neg (by simpa using hyl)]
   exact hrun
 · rw [hc0] at hlen
   simp at hlen
   omega
theorem St.reRow {B0:Nat} {w0:Wd} {h:H} (s:St B0 w0 G h w) {r:Nat} {g:BvG} {q':Option Nat} {ds:List AV} (hr:r<G.bx.length) (h0:0<(G.bv r).v) (h1:(G.bv r).v<g.v)
 (hq:(q'=none∧∃ v τ,ds=[.row v τ []]∧0<v∧0<τ.size∧g=⟨v,0,0,τ.size⟩)∨∃ b vs t,q'=some b∧B0≤b∧w.heap[b]? = some (.cells vs t (0,0))∧(∀ x,G.bx[x]? = some (some b)→x=r)∧(∀ o,¬ G.D b o) ∧
  (∀ (t:Nat) (g0:Tk),G.tk[t]? = some (some g0)→g0.n<g0.cap→g0.A≠some b)∧(∀ G':GS,Ext G.base G G'→G'.D=G.D→G'.bv r=g→RepB w G' r vs.toList ds)∧∀ T,tyOf ds=some T→t=T) :
 ∃ G',Ext G.base G G'∧St B0 w0 G' { h with bx:=upd h.bx r ds } w∧G'.bx[r]? = some q'∧G'.bv r=g∧G'.D=G.D:=by
 have hrl':r<h.bx.length:=by rw [s.bxl]; exact hr
 have hext:Ext G.base G { G with D:=G.D,bx:=G.bx.set r q',bv:=fun x=>if x=r then g else G.bv x }:=zl0 (fun _ _ h=>h) hr h0 h1
 have hnm:∀ b,some b∈G.bx.set r q'→some b∈G.bx∨q'=some b:=fun b hb=>by
  obtain ⟨x,hx⟩:=List.getElem?_of_mem hb
  rw [List.getElem?_set] at hx
  split at hx
  · simp [hr] at hx; exact .inr hx
  · exact .inl (List.mem_of_getElem? hx)
 have hqD:∀ b o,q'=some b→¬ G.D b o:=fun b o e=>by
  rcases hq with ⟨e',_⟩ | ⟨b',vs,t,e',_,_,_,hd,_⟩
  · rw [e] at e'; cases e'
  · rw [e] at e'; obtain rfl:=Option.some.inj e'; exact hd o
 refine ⟨_,hext,?_,by simp [hr],by simp,rfl⟩
 exact
 { below := s.below
   b0:=s.b0
   bxl:=by simp [zk,s.bxl]
   box := fun x b cs e1 e2=>by
    simp only [zk,List.getElem?_set] at e1 e2
    by_cases hxr:r=x
    · subst hxr
      rw [if_pos rfl,if_pos hr] at e1
      rw [if_pos rfl,if_pos hrl'] at e2
      obtain rfl:=Option.some.inj e2
      have e1:=Option.some.inj e1
      rcases hq with ⟨e',_⟩ | ⟨b',vs,t,e',hB,hh,_,_,_,hR,hty⟩
      · rw [e1] at e'; cases e'
      · rw [e1] at e'
        obtain rfl:=Option.some.inj e'
        exact ⟨hB,_,hh,.cells _ _ _ (hR _ hext rfl (by simp)) hty⟩
    · rw [if_neg hxr] at e1 e2
      obtain ⟨hB,ob,hh,hrr⟩:=s.box x b cs e1 e2
      exact ⟨hB,ob,hh,hrr.keep hext (Keep.refl _ _) (by simp [Ne.symm hxr])⟩
   virt:=fun x cs e1 e2=>by
    simp only [zk,List.getElem?_set] at e1 e2
    by_cases hxr:r=x
    · subst hxr
      rw [if_pos rfl,if_pos hr] at e1
      rw [if_pos rfl,if_pos hrl'] at e2
      obtain rfl:=Option.some.inj e2
      have e1:=Option.some.inj e1
      rcases hq with ⟨_,v,τ,g1,g2,g3,g4⟩ | ⟨b',vs,t,e',_⟩
      · exact .inl ⟨v,τ,g1,g2,g3,by simp [g4]⟩
      · rw [e1] at e'; cases e'
    · rw [if_neg hxr] at e1 e2
      rcases s.virt x cs e1 e2 with ⟨v',τ',e1,e2,e3,e4⟩ | ⟨e1,e2⟩
      · exact .inl ⟨v',τ',e1,e2,e3,by simp only [Ne.symm hxr,if_false]; exact e4⟩
      · exact .inr ⟨e1,by simp only [Ne.symm hxr,if_false]; exact e2⟩
   inj := fun x x' b e1 e2=>by
    have key:∀ y,(G.bx.set r q')[y]? = some (some b)→y≠r→G.bx[y]? = some (some b):=fun y hy hne=>by
     rw [List.getElem?_set,if_neg (Ne.symm hne)] at hy; exact hy
    have kr:(G.bx.set r q')[r]? = some (some b)→q'=some b:=fun hy=>by simpa [hr] using hy
    by_cases hxr:x=r
    · subst hxr
      by_cases hxr':x'=x
      · exact hxr'.symm
      · have e3:=kr e1
        have e4:=key _ e2 hxr'
        rcases hq with ⟨e',_⟩ | ⟨b',vs,t,e',_,_,hu,_⟩
        · rw [e3] at e'; cases e'
        · rw [e3] at e'; obtain rfl:=Option.some.inj e'
          exact absurd (hu _ e4) hxr'
    · have e3:=key _ e1 hxr
      by_cases hxr':x'=r
      · subst hxr'
        have e4:=kr e2
        rcases hq with ⟨e',_⟩ | ⟨b',vs,t,e',_,_,hu,_⟩
        · rw [e4] at e'; cases e'
        · rw [e4] at e'; obtain rfl:=Option.some.inj e'
          exact absurd (hu _ e3) hxr
      · exact s.inj x x' b e3 (key _ e2 hxr')
   dat:=fun b o hd=>⟨(s.dat b o hd).1,fun hm=>by
    rcases hnm b hm with hm | e
    · exact (s.dat b o hd).2 hm
    · exact hqD b o e hd⟩
   dat0:=s.dat0
   tkl:=s.tkl
   tok := fun t g0 ht=>by
    obtain ⟨h1,h2⟩:=s.tok t g0 ht
    refine ⟨h1,fun hlt => ?_⟩
    obtain ⟨b,hA,hB,hn,rest⟩:=h2 hlt
    refine ⟨b,hA,hB,fun hm => ?_,rest⟩
    rcases hnm b hm with hm | e
    · exact hn hm
    · rcases hq with ⟨e',_⟩ | ⟨b',vs,t',e',_,_,_,_,hu,_⟩
      · rw [e] at e'; cases e'
      · rw [e] at e'; obtain rfl:=Option.some.inj e'
        exact hu t g0 ht hlt hA
   tki:=s.tki
   lpl:=s.lpl
   loop:=s.loop
   lpi:=s.lpi
   dfr:=s.dfr
   dfn:=s.dfn }
end
end Go.AM
set_option linter.unusedVariables false
set_option linter.unusedSimpArgs false
namespace Go.AM
open Go.RowKit
section
variable {P:Program} {w:World} {G:GS}
theorem zl1 {B0 r v n cap:Nat} {τ:Ty} {l:List τ.den} {q:Option Nat} (R:RowAt B0 w G r v τ l q cap) {xv:Value} (hx:RepV w G xv (.ms r v n τ)) {size:Nat} (hs:size=τ.size):∃ news,SrcOK P w G size τ l xv news:=by
 subst hs
 obtain ⟨rfl,A,rfl,hA⟩:=R.ms hx
 rcases R.wh with ⟨e,e2,e3⟩ | ⟨b,vs,t,e,hB,hh,hsz,hrow⟩
 · subst e2
   exact ⟨[],rfl,fun wx=>rfl,fun wx hc=>za2 (by simp) (fun h0=>absurd h0 (by simp))⟩
 · have hus:(vs.toList.take (l.length*τ.size)).length=l.length*τ.size:=RowOf.length (fun x vs hx=>zu hx) hrow
   refine ⟨_,hrow,fun wx=>rfl,fun wx hc=>za2 hus fun h0=>⟨b,0,hA b e,fun j u hj => ?_⟩⟩
   rw [List.getElem?_take] at hj
   split at hj
   · rw [hc,Nat.zero_add,zr hh,← Array.getElem?_toList]; exact hj
   · cases hj
theorem zmy {X:Type} {B0:Nat} {w0:Wd} {h:H} {k:AV→H→Option X} {y:X} (s:St B0 w0 G h w) {t t2 et ty:TypeId} {i:TypeInfo} {z:Value} {d2:TypeDesc}
 (ht:P.underlying t=some (.slice et)) (ht2:P.underlying t2=some d2) (hd2:∀ k,d2 ≠ .int k) (hi:P.info? et=some i) (hz0:i.zero=some z) (hzs:z.cells.size=i.size)
 {r v n:Nat} {τ:Ty} (hsz:i.size=τ.size) (htg:tagOK τ et=true) {l m:List τ.den} {sv xv:Value} {news:List Value} (hx:RepV w G sv (.ms r v n τ)) (hq:h.bx[r]? = some [.row v τ l]) (hsrc:SrcOK P w G i.size τ m xv news)
 (hb:(l.length+m.length)*i.bytes≤2 ^ 46) (hb0:0<i.bytes) (hb1:i.bytes≤2 ^ 20) (hk:k (.ms r (v+1) (l++m).length τ) { h with bx:=upd h.bx r [.row (v+1) τ (l++m)] }=some y) :
 ∃ val w',(Builtin.append_ #[t,t2] ty #[sv,xv]).run P w = .ok val w'∧Ends B0 w0 G w k y val w':=by
 obtain ⟨q,cap,R⟩:=s.rowAt hq (zcv hx)
 obtain ⟨olds,hold⟩:=zl1 (P:=P) R hx (size:=i.size) hsz
 obtain ⟨rfl,A,rfl,hA⟩:=R.ms hx
 have hrl:r<G.bx.length:=(List.getElem?_eq_some_iff.1 R.hb).1
 have hmax:l.length+m.length≤strMax:=by
  have:l.length+m.length≤(l.length+m.length)*i.bytes:=Nat.le_mul_of_pos_right _ hb0
  have h3:(2:Nat) ^ 46≤strMax:=by decide
  omega
 have hlen:∀ (x:τ.den) (vs:List Value),RepC w G.D τ x vs→vs.length=τ.size:=fun x vs hx=>zu hx
 have hnl:news.length=m.length*τ.size:=RowOf.length hlen hsrc.row
 have hol:olds.length=l.length*τ.size:=RowOf.length hlen hold.row
 have hadd:(l.length+m.length)*τ.size=l.length*τ.size+m.length*τ.size:=Nat.add_mul _ _ _
 have hv0:0<(G.bv r).v:=by rw [R.hv]; exact R.v0
 have hrep:∀ (G':GS) (w':World) (q':Option Nat) (c':Nat) (A':Option Addr),G'.bx[r]? = some q'→G'.bv r=⟨v+1,(l++m).length,c',τ.size⟩→(∀ b,q'=some b→A'=some ⟨b,0,none⟩)→(0<(l++m).length→∃ b,q'=some b) →
  RepV w' G' (.slice A' (l.length+m.length) c') (.ms r (v+1) (l++m).length τ):=fun G' w' q' c' A' h1 h2 h3 h4=>by
  have e:l.length+m.length=(l++m).length:=by simp
  rw [e]
  exact .ms _ _ _ _ _ (Nat.succ_pos v) ⟨A',c',rfl,fun h0=>by obtain ⟨b,hb⟩:=h4 h0; exact ⟨b,0,h3 b hb⟩⟩ ⟨q',h1,by rw [h2]; exact Nat.le_refl _,fun _=>by rw [h2]; exact ⟨rfl,rfl,A',rfl,h3⟩⟩
 by_cases hroom:l.length+m.length≤cap
 · rcases R.wh with ⟨e,e2,e3⟩ | ⟨b,vs,vt,e,hB,hh,hvs,hrow⟩
   ·
    subst e2 e3
    have hm:m=[]:=List.eq_nil_of_length_eq_zero (by simpa using hroom)
    subst hm
    have hnn:news=[]:=List.eq_nil_of_length_eq_zero (by simpa using hnl)
    subst hnn
    have hrun:=zbb (w:=w) (ty:=ty) (n:=0) (cap:=0) ht ht2 hd2 hi (A:=A) (hsrc.len w) (hsrc.first w (fun _=>rfl)) (by simp) (w':=w) (fun a _=>rfl) (fun _=>rfl)
    obtain ⟨G',h1,h2,h3,h4,_⟩:=s.reRow (r:=r) (g:=⟨v+1,0,0,τ.size⟩) (q':=none) (ds:=[.row (v+1) τ []]) hrl hv0 (by rw [R.hv]; exact Nat.lt_succ_self v) (.inl ⟨rfl,v+1,τ,rfl,Nat.succ_pos v,R.z0,rfl⟩)
    exact ⟨_,w,hrun,_,G',_,h1,Keep.refl _ _,h2,hrep G' w none 0 A h3 h4 (fun b hb=>by cases hb) (fun h0=>absurd h0 (by simp)),hk⟩
   · have hbq:G.bx[r]? = some (some b):=by rw [R.hb,e]
     have hA':=hA b e
     subst hA'
     have hcm:(l.length+m.length)*τ.size≤cap*τ.size:=Nat.mul_le_mul_right _ hroom
     have hrun0:=zaf (P:=P) b (l.length*τ.size) vt (0,0) news 0 vs w hh (fun j _=>by simp [World.frozen?,hh]) (by omega) (zd9 hsrc.row)
     simp only [Nat.add_zero] at hrun0
     generalize hnv:(vs.toList.take (l.length*τ.size)++news++vs.toList.drop (l.length*τ.size+news.length)).toArray=nv at hrun0
     have hnvl:nv.toList=vs.toList.take (l.length*τ.size)++news++vs.toList.drop (l.length*τ.size+news.length):=by rw [← hnv]
     have hnvs:nv.size=vs.size:=by
      rw [← hnv]; simp only [List.size_toArray,List.length_append,List.length_take,List.length_drop,Array.length_toList]; omega
     have htl:(vs.toList.take (l.length*τ.size)).length=l.length*τ.size:=by simp only [List.length_take,Array.length_toList]; omega
     have htk1:nv.toList.take (l.length*τ.size)=vs.toList.take (l.length*τ.size):=by
      rw [hnvl,List.append_assoc,List.take_append_of_le_length (by omega),List.take_of_length_le (by omega)]
     have htk2:nv.toList.take ((l.length+m.length)*τ.size)=vs.toList.take (l.length*τ.size)++news:=by
      rw [hnvl,List.take_append_of_le_length (by rw [List.length_append,htl,hnl]; omega),List.take_of_length_le (by rw [List.length_append,htl,hnl]; omega)]
     have hheap:=setRow_heap w b vs nv vt _ hh
     obtain ⟨hkeep,s1⟩:=s.setBox (ds:=[.row v τ l]) hbq hh hB hnvs (fun hkp => .row _ v τ l cap R.v0 R.hv R.z0 R.lc R.lm (by rw [Array.length_toList,hnvs,hvs]) (by
      rw [htk1]; exact RowOf.mono _ _ (fun x _ us hx=>RepC.mono (fun _ _ hd=>hd) hkp τ x us hx) hrow) R.v1) (zbq (R.tg b vs vt e hh))
     have hrun:=zbb (w:=w) (ty:=ty) (n:=l.length) (cap:=cap) ht ht2 hd2 hi (A:=some ⟨b,0,none⟩) (hsrc.len w) (hsrc.first w (fun _=>rfl)) hroom (w':=w.setRow b nv)
      (fun a ha=>by
       obtain rfl:=Option.some.inj ha
       rw [addp,hsz,Nat.zero_add]
       exact hrun0) (fun ha=>by cases ha)
     obtain ⟨G',h1,h2,h3,h4,h5⟩:=s1.reRow (r:=r) (g:=⟨v+1,(l++m).length,cap,τ.size⟩) (q':=some b) (ds:=[.row (v+1) τ (l++m)]) hrl hv0 (by rw [R.hv]; exact Nat.lt_succ_self v)
      (.inr ⟨b,nv,vt,rfl,hB,hheap,fun x hxb=>s.inj x r b hxb hbq,fun o hd=>(s.dat b o hd).2 (List.mem_of_getElem? hbq),fun t g0 h0 hlt hAe=>by
       obtain ⟨b',hA',_,hn,_⟩:=(s.tok t g0 h0).2 hlt
       rw [hAe] at hA'
       obtain rfl:=Option.some.inj hA'
       exact hn (List.mem_of_getElem? hbq),fun G' hG' hD' hg' => .row _ (v+1) τ (l++m) cap (Nat.succ_pos v) hg' R.z0 (by simpa using hroom) (by simpa using hmax) (by rw [Array.length_toList,hnvs,hvs]) (by
        rw [List.length_append,htk2,hD']
        exact RowOf.mono _ _ (fun x _ us hx=>RepC.mono (fun _ _ hd=>hd) hkeep τ x us hx) (RowOf.append hrow hsrc.row)) (fun e=>by have:=R.v0; omega),zbq (R.tg b vs vt e hh)⟩)
     refine ⟨_,_,hrun,_,G',_,h1,hkeep,h2,hrep G' _ (some b) cap _ h3 h4 (fun b' hb'=>by cases hb'; rfl) (fun _=>⟨b,rfl⟩),?_⟩
     simp only [zk,List.set_set] at hk ⊢
     exact hk
 ·
  have hrunx:∃ c',l.length+m.length≤c'∧(Builtin.append_ #[t,t2] ty #[.slice A l.length cap,xv]).run P w =
   .ok (.slice (some ⟨w.heap.size,0,none⟩) (l.length+m.length) c') (w.drew.alloc (.cells (olds.toArray++news.toArray++Builtin.zeroCells z.cells (c' - (l.length+m.length))) et)):=
   zct ht ht2 hd2 hi hz0 (hsrc.len w) (hsrc.first w.drew (fun _=>rfl)) (hold.first w.drew (fun _=>rfl)) hroom hb hb0 hb1
  obtain ⟨c',hc',hrun⟩:=hrunx
  generalize hrw:(olds.toArray++news.toArray++Builtin.zeroCells z.cells (c' - (l.length+m.length)))=cells at hrun
  have hcl:cells.toList=(olds++news)++(Builtin.zeroCells z.cells (c' - (l.length+m.length))).toList:=by rw [← hrw]; simp
  have hcs:cells.size=c'*τ.size:=by
   rw [← hrw]
   simp only [Array.size_append,List.size_toArray,size_zeroCells,hzs,hsz,hol,hnl,← Nat.add_mul]
   congr 1
   omega
  have hgr:w.grownBy (w.drew.alloc (.cells cells et)) none:=
   ⟨rfl,rfl,rfl,by simp,fun k hk _=>Below.heap_alloc w.drew _ k hk⟩
  have s1:=s.grown0 hgr
  have hkeep:Keep G.D w (w.drew.alloc (.cells cells et)):=Keep.of_grown hgr (fun b o x=>(s.dat b o x).1) (fun _ _ _=>by simp)
  have hheap:(w.drew.alloc (.cells cells et)).heap[w.heap.size]? = some (.cells cells et (0,0)):=World.alloc_heap_new w.drew _
  have hon:(olds++news).length=(l.length+m.length)*τ.size:=by rw [List.length_append,hol,hnl,hadd]
  obtain ⟨G',h1,h2,h3,h4,h5⟩:=s1.reRow (r:=r) (g:=⟨v+1,(l++m).length,c',τ.size⟩) (q':=some w.heap.size) (ds:=[.row (v+1) τ (l++m)]) hrl hv0 (by rw [R.hv]; exact Nat.lt_succ_self v)
   (.inr ⟨w.heap.size,cells,et,rfl,s.b0,hheap,fun x hxb=>by
    have hx':x<h.bx.length:=by rw [s.bxl]; exact (List.getElem?_eq_some_iff.1 hxb).1
    obtain ⟨_,_,hh',_⟩:=s.box x _ _ hxb (List.getElem?_eq_getElem hx')
    have:=(Array.getElem?_eq_some_iff.1 hh').1
    omega,fun o hd=>by
    obtain ⟨u,hu⟩:=(s.dat _ o hd).1
    have:=World.block_lt_of_cell? w _ hu
    simp at this,fun t g0 h0 hlt hAe=>by
    obtain ⟨b',hA',_,_,_,_,_,hh',_⟩:=(s.tok t g0 h0).2 hlt
    rw [hAe] at hA'
    obtain rfl:=Option.some.inj hA'
    have:=(Array.getElem?_eq_some_iff.1 hh').1
    omega,fun G' hG' hD' hg' => .row _ (v+1) τ (l++m) c' (Nat.succ_pos v) hg' R.z0 (by simpa using hc') (by simpa using hmax) (by rw [Array.length_toList,hcs]) (by
     rw [List.length_append,hcl,List.take_append_of_le_length (by omega),List.take_of_length_le (by omega),hD']
     exact RowOf.mono _ _ (fun x _ us hx=>RepC.mono (fun _ _ hd=>hd) hkeep τ x us hx) (RowOf.append hold.row hsrc.row)) (fun e=>by have:=R.v0; omega),zbq htg⟩)
  exact ⟨_,_,hrun,_,G',_,h1,hkeep,h2,hrep G' _ (some w.heap.size) c' _ h3 h4 (fun b' hb'=>by cases hb'; rfl) (fun _=>⟨_,rfl⟩),hk⟩
theorem zog {X:Type} {B0:Nat} {w0:Wd} {h:H} (s:St B0 w0 G h w) {τ:Ty} {xa:AV} {xv:Value} (hx:RepV w G xv xa) {k:List τ.den→Option X} {y:X} (hk:srcK τ xa h k=some y) {size:Nat} (hs:size=τ.size) :
 ∃ m news,SrcOK P w G size τ m xv news∧k m=some y:=by
 unfold srcK at hk
 split at hk
 · rename_i m
   split at hk
   · obtain ⟨news,h1⟩:=zhb (P:=P) hx
     rw [show size=1 from hs]
     exact ⟨m,news,h1,hk⟩
   · obtain ⟨news,h1⟩:=zhb (P:=P) hx
     rw [show size=1 from hs]
     exact ⟨m,news,⟨RowOf.mono (α:=UInt8) m news (fun x _ vs h=>by simpa only [RepC] using h) h1.row,h1.len,h1.first⟩,hk⟩
   · cases hk
 · rename_i τ' m c
   split at hk
   · rename_i m' hm
     obtain ⟨e,rfl⟩:=zcp hm
     subst e
     obtain ⟨news,h1⟩:=zh0 (P:=P) hx hs
     exact ⟨m,news,h1,hk⟩
   · cases hk
 · rename_i r v n τ'
   split at hk
   · rename_i m' hm
     obtain ⟨e,_⟩:=zcp hm
     subst e
     obtain ⟨l,hq,hk,_⟩:=zv hk
     obtain ⟨q,cap,R⟩:=s.rowAt hq (zcv hx)
     obtain ⟨news,h1⟩:=zl1 (P:=P) R hx hs
     exact ⟨l,news,h1,hk⟩
   · cases hk
 · cases hk
theorem zhc {X:Type} {cx:Cx X} (hT:TabOK P cx.tab) {a:Act} {e:Env} {N:Nat} (he:EnvR w G N a.tmps e) {B0:Nat} {w0:Wd} {h:H} (s:St B0 w0 G h w) {t et:Nat} {ti ei:TI} (ht:cx.tab t=some ti) (htd:ti.d = .slice et)
 (hei:cx.tab et=some ei) {τ:Ty} {len:Nat} {parts:Array (Nat×Operand)} {l:List τ.den} (hb:buildSl τ e 0 parts.toList=some l) (hl:l.length=len) (hsz:ei.size=τ.size) (hmax:len*ei.size≤16777216)
 (hz:ei.zero.length=ei.size) (hp:0<ei.size) (htg:tagOK τ et=true) {k:AV→H→Option X} {y:X} (hk:k (.ms h.bx.length 1 len τ) { h with bx:=h.bx++[[.row 1 τ l]] }=some y) :
 ∃ v w',(Instr.buildSlice t len (parts.map fun (i,x)=>(i,a.eval x))).run P w = .ok v w'∧Ends B0 w0 G w k y v w':=by
 have hti:=(hT t ti ht).d
 rw [htd] at hti
 have hEi:=hT et ei hei
 obtain ⟨z,hzr,_⟩:=zw (w:=w) hEi (fun e=>by rw [e] at hz; simp at hz; omega)
 obtain ⟨zc,hz0,hz1⟩:∃ zc:Array Value,(len*ei.size=0→zc=#[])∧(¬ len*ei.size=0→zc=z.cells):=by
  by_cases h0:len*ei.size=0
  · exact ⟨#[],fun _=>rfl,fun h=>absurd h0 h⟩
  · exact ⟨z.cells,fun h=>absurd h h0,fun _=>rfl⟩
 generalize hA:(Array.range (len*ei.size)).map (fun x=>zc[x % zc.size]!)=arr
 have hAs:arr.size=len*τ.size:=by rw [← hA]; simp [hsz]
 obtain ⟨arr',us,hf,hrow,e2⟩:=zdc (w:=w) (G:=G) he (by omega) parts.toList 0 arr l hb (by rw [Nat.zero_add,hl,hAs]; exact Nat.le_refl _)
 have hus:us.length=len*τ.size:=by rw [← hl]; exact RowOf.length (fun x vs hx=>zu hx) hrow
 have hall:arr'.toList=us:=by
  rw [e2]
  simp only [Nat.zero_mul,List.take_zero,List.nil_append,Nat.zero_add]
  rw [List.drop_eq_nil_of_le (by simp [hAs,hl]),List.append_nil]
 have hmap:(parts.map fun (i,x)=>(i,a.eval x)).toList=parts.toList.map fun p=>(p.1,a.eval p.2):=by simp
 have hrun:(Instr.buildSlice t len (parts.map fun (i,x)=>(i,a.eval x))).run P w = .ok (.slice (some ⟨w.heap.size,0,none⟩) len len) (w.alloc (.cells arr' et)):=by
  unfold Instr.buildSlice
  simp only [Sem.run_bind,run_underlying hti,Result.andThen_ok,zq hEi]
  rw [if_neg (by omega)]
  by_cases h0:len*ei.size=0
  · rw [if_pos h0]
    have:=hz0 h0
    subst this
    simp only [Sem.run_bind,Result.andThen_ok,Sem.run_pure]
    rw [hA,hmap]
    rw [hsz,hf]
    simp [newRow]
  · rw [if_neg h0]
    have:=hz1 h0
    subst this
    simp only [Sem.run_bind,hzr,Result.andThen_ok,Sem.run_pure]
    rw [hA,hmap]
    rw [hsz,hf]
    simp [newRow]
 have hsm:l.length≤strMax:=by
  have h1:l.length≤len*ei.size:=by rw [hl]; exact Nat.le_mul_of_pos_right _ hp
  have h2:(16777216:Nat)≤strMax:=by decide
  omega
 have hal:arr'.toList.length=len*τ.size:=by rw [hall,hus]
 obtain ⟨G',h1,h2,h3,h4,h5,h6⟩:=s.addBox (vs:=arr') (cs:=[.row 1 τ l]) et ⟨1,len,len,τ.size⟩ (fun G' hx hg _ hkp => .row _ 1 τ l len Nat.one_pos (by rw [hg,hl]) (by omega) (by omega) hsm hal (by
  rw [hl,List.take_of_length_le (by omega),hall]
  exact RowOf.mono _ _ (fun x _ us hx'=>RepC.mono hx.D hkp τ x us hx') hrow) (fun _=>hl.symm)) (zbq htg)
 refine ⟨_,_,hrun,_,G',_,h1,h2,h3,.ms _ _ _ _ _ Nat.one_pos ⟨_,_,rfl,fun _=>⟨_,_,rfl⟩⟩ ⟨_,h4,by rw [h5]; exact Nat.le_refl _,fun _=>by rw [h5]; exact ⟨rfl,rfl,_,rfl,fun b hb=>by cases hb; rfl⟩⟩,hk⟩
end
end Go.AM
set_option linter.unusedVariables false
set_option linter.unusedSimpArgs false
namespace Go.AM
open Go.MapKept Go.RowKit
section
variable {P:Program} {w:World} {G:GS}
abbrev mpV (p:List UInt8×Int):Value×Value:=(Value.string ⟨p.1.toArray⟩,Value.int .i64 p.2)
theorem zl2 (s:ByteArray) {l:List UInt8} (h:s.data.toList=l):s=⟨l.toArray⟩:=by
 obtain ⟨d⟩:=s
 subst h
 simp
theorem zhd (s:List UInt8):∀ (l:List (List UInt8×Int)) (es:List MapEntry) (j:Nat),es.map (fun x=>(x.key,x.val))=l.map mpV →
 (Instr.findNow .string (.string ⟨s.toArray⟩) es j=some none∧mpGet l s=none∧∀ n,mpSet l s n=l++[(s,n)]) ∨
 (∃ (i:Nat) (e:MapEntry) (v:Int),Instr.findNow .string (.string ⟨s.toArray⟩) es j=some (some (j+i,.int .i64 v))∧es[i]? = some e∧e.key = .string ⟨s.toArray⟩∧mpGet l s=some v ∧
  ∀ (n:Int) (f:MapEntry→MapEntry),(f e).key = .string ⟨s.toArray⟩→(f e).val = .int .i64 n→(es.set i (f e)).map (fun x=>(x.key,x.val))=(mpSet l s n).map mpV)
 | [],es,j,h=>by
  have:es=[]:=by simpa using h
  subst this
  exact .inl ⟨rfl,rfl,fun n=>rfl⟩
 | (k, v)::l,es,j,h=>by
  cases es with
  | nil=>simp at h
  | cons e es =>
   simp only [List.map_cons,List.cons.injEq,Prod.mk.injEq] at h
   obtain ⟨⟨hk,hv⟩,h⟩:=h
   obtain ⟨r,hr,hiff⟩:=sameNow_of_keys (d:=.string) (a:=.string ⟨s.toArray⟩) (b:=e.key) (by simp [IsKey]) (by rw [hk]; simp [IsKey])
   have hkk:(k==s)=r:=by
    rw [hk] at hiff
    cases r with
    | true =>
     have:=hiff.1 rfl
     simp at this
     simp [this]
    | false =>
     cases hb:k==s with
     | false=>rfl
     | true =>
      have e1:k=s:=by simpa using hb
      have:=hiff.2 (by rw [e1])
      cases this
   cases r with
   | true =>
    have e1:k=s:=by simpa using hkk
    refine .inr ⟨0,e,v,by simp [Instr.findNow,hr,hv],rfl,by rw [hk,e1],by simp [mpGet,hkk],fun n f h1 h2 => ?_⟩
    subst e1
    simp only [List.set_cons_zero,List.map_cons,h1,h2,mpSet,beq_self_eq_true,cond_true,h]
   | false =>
    rcases zhd s l es (j+1) h with ⟨h1,h2,h3⟩ | ⟨i,e',v',h1,h2,h3,h4,h5⟩
    · exact .inl ⟨by simp [Instr.findNow,hr,h1],by simp [mpGet,hkk,h2],fun n=>by simp [mpSet,hkk,h3]⟩
    · refine .inr ⟨i+1,e',v',by simp [Instr.findNow,hr,h1]; omega,by simpa using h2,h3,by simp [mpGet,hkk,h4],fun n f f1 f2 => ?_⟩
      simp only [List.set_cons_succ,List.map_cons,hk,hv,mpSet,hkk,cond_false,h5 n f f1 f2]
theorem zjj {tab:Nat→Option TI} {t:Nat} (h:mpT tab t=true):∃ k e ti tk te,tab t=some ti∧ti.d = .map k e∧tab k=some tk∧tk.d = .str∧tab e=some te∧te.zero≠[]:=by
 unfold mpT at h
 split at h
 · rename_i k e a b c d f g ht
   split at h
   · rename_i h1 h2
     exact ⟨k,e,_,_,_,ht,rfl,h1,rfl,h2,by simp⟩
   · cases h
 · cases h
theorem zhe {mty kt et:TypeId} (hm:P.underlying mty=some (.map kt et)) (hd:P.underlying kt=some .string) {b:Nat} {es:Array MapEntry} {c:Nat} (hb:w.heap[b]? = some (.map es c)) {l:List (List UInt8×Int)} (hl:MapRel es l) (s:List UInt8) (n:Int) :
 ∃ es' c',(Instr.mapUpdate mty (.map (some b)) (.string ⟨s.toArray⟩) (.int .i64 n)).run P w = .ok () (w.putObj b (.map es' c'))∧MapRel es' (mpSet l s n):=by
 have hk:IsKey .string (.string ⟨s.toArray⟩):=by simp [IsKey]
 rcases zhd s l es.toList 0 hl with ⟨h1,h2,h3⟩ | ⟨i,e,v,h1,h2,h3,h4,h5⟩
 · refine ⟨es.push { key:=.string ⟨s.toArray⟩,val:=.int .i64 n,born:=c },c+1,?_,?_⟩
   · simp [Instr.mapUpdate,run_underlying hm,Go.MapKept.run_getObj_map hb,run_checkKey hd hk,run_findKey hd h1,run_setObj_map _ hb,Result.andThen,World.putObj]
   · unfold MapRel at hl ⊢
     rw [h3 n,Array.toList_push,List.map_append,List.map_append,hl]
     rfl
 · have hj:es[i]? = some e:=by simpa using h2
   have hlt:i<es.size:=(Array.getElem?_eq_some_iff.1 hj).1
   refine ⟨es.modify i fun e=>{ e with key:=.string ⟨s.toArray⟩,val:=.int .i64 n },c,?_,?_⟩
   · simp [Instr.mapUpdate,run_underlying hm,Go.MapKept.run_getObj_map hb,run_checkKey hd hk,run_findKey hd h1,hj,h3,run_keyThatStays hk,run_setObj_map _ hb,Result.andThen,World.putObj]
   · unfold MapRel
     have:=h5 n (fun e=>{ e with key:=.string ⟨s.toArray⟩,val:=.int .i64 n }) rfl rfl
     rw [← this]
     congr 1
     rw [Array.toList_modify]
     have he:es.toList[i]? = some e:=h2
     refine List.ext_getElem? fun j => ?_
     rw [List.getElem?_modify,List.getElem?_set]
     by_cases hij:i=j
     · subst hij
       have:=(List.getElem?_eq_some_iff.1 he).1
       rw [if_pos rfl,he,if_pos this]
       simp
     · simp [hij]
theorem zld {t k e:TypeId} (ht:P.underlying t=some (.map k e)) (hk:P.underlying k=some .string) {z:Value} (hz:(zeroValue e).run P w = .ok z w) {b:Nat} {es:Array MapEntry} {c:Nat} (hb:w.heap[b]? = some (.map es c)) {l:List (List UInt8×Int)} (hl:MapRel es l) (s:List UInt8) :
 ∃ v,(Instr.lookup t (.map (some b)) (.string ⟨s.toArray⟩) true).run P w = .ok v w∧RepV w G v (match mpGet l s with | some v => .tup [.int .i64 v,.bool true] | none => .tup [.any,.bool false]):=by
 have hkey:IsKey .string (.string ⟨s.toArray⟩):=by simp [IsKey]
 have hc:∀ b' w',(Instr.checkKey b' 10000 k (.string ⟨s.toArray⟩)).run P w' = .ok () w':=fun b' w'=>run_checkKey hk hkey b' 9999
 have tup:∀ (x:Value) (y:Bool) (ax:AV),RepV w G x ax→RepV w G (.tuple #[x,.bool y]) (.tup [ax,.bool y]):=fun x y ax hx=>by
  refine .tup _ _ rfl (fun i v c hv hc => ?_)
  match i,hv,hc with
  | 0,hv,hc=>simp at hv hc; subst hv hc; exact hx
  | 1,hv,hc=>simp at hv hc; subst hv hc; exact .bool _
  | i+2,hv,hc=>simp at hc
 rcases zhd s l es.toList 0 hl with ⟨h1,h2,-⟩ | ⟨i,e',v,h1,h2,h3,h4,-⟩
 · refine ⟨.tuple #[z,.bool false],?_,by rw [h2]; exact tup _ _ _ (.any _)⟩
   simp only [Instr.lookup,Sem.run_bind,run_underlying ht,Result.andThen_ok,Go.MapKept.run_getObj_map hb,hc,run_findKey hk h1,Sem.run_pure,if_true,hz]
 · refine ⟨.tuple #[.int .i64 v,.bool true],?_,by rw [h4]; exact tup _ _ _ (.int _ _ (fun e=>by cases e))⟩
   simp only [Instr.lookup,Sem.run_bind,run_underlying ht,Result.andThen_ok,Go.MapKept.run_getObj_map hb,hc,run_findKey hk h1,Sem.run_pure,if_true]
theorem St.setMap {B0:Nat} {w0:Wd} {h:H} (s:St B0 w0 G h w) {q b:Nat} {es es':Array MapEntry} {c c':Nat} {l:List (List UInt8×Int)} (hb:G.bx[q]? = some (some b)) (hh:w.heap[b]? = some (.map es c)) (hB:B0≤b) (hv:(G.bv q).v=0) (hl:MapRel es' l) :
 Keep G.D w (w.putObj b (.map es' c'))∧St B0 w0 G { h with bx:=upd h.bx q [.mp l] } (w.putObj b (.map es' c')):=by
 have hcell:∀ (a:Addr),(∃ u,w.cell? a=some u)→(w.putObj b (.map es' c')).cell? a=w.cell? a:=fun a ⟨u,hu⟩=>by
  by_cases e:a.block=b
  · exfalso
    unfold World.cell? at hu
    rw [e,hh] at hu
    simp at hu
  · exact World.cell?_of_block (w:=w) (World.putObj_heap_other e)
 have hk:Keep G.D w (w.putObj b (.map es' c')):=fun x i hx=>hcell _ (s.dat x i hx).1
 have hlt:b<w.heap.size:=(Array.getElem?_eq_some_iff.1 hh).1
 have hoth:∀ x o,w.heap[x]? = some o→(∀ es c,o≠Obj.map es c)→(w.putObj b (.map es' c')).heap[x]? = some o:=fun x o hx hne=>by
  rw [World.putObj_heap_other (fun e=>by rw [e,hh] at hx; exact hne _ _ (Option.some.inj hx).symm)]; exact hx
 have hx:Ext G.base G G:=Ext.refl (Base.le_refl _)
 refine ⟨hk,?_⟩
 exact
 { below := s.below.trans ⟨rfl,rfl,rfl,by simp,fun k hk=>World.putObj_heap_other (by omega)⟩
   b0:=by simpa using s.b0
   bxl:=by simp [zk,s.bxl]
   box := fun r x cs e1 e2=>by
    simp only [zk,List.getElem?_set] at e2
    by_cases hrq:q=r
    · subst hrq
      rw [if_pos rfl] at e2
      split at e2
      · obtain rfl:=Option.some.inj e2
        rw [hb] at e1
        obtain rfl:=Option.some.inj (Option.some.inj e1)
        exact ⟨hB,_,World.putObj_heap_same hlt,.mp _ _ _ hv hl⟩
      · cases e2
    · rw [if_neg hrq] at e2
      obtain ⟨hBx,ob,h2,hr⟩:=s.box r x cs e1 e2
      have hne:x≠b:=fun e=>hrq (s.inj q r b hb (by rw [← e]; exact e1))
      exact ⟨hBx,ob,(World.putObj_heap_other hne).trans h2,hr.keep hx hk rfl⟩
   virt:=fun r cs e1 e2=>by
    simp only [zk,List.getElem?_set] at e2
    by_cases hrq:q=r
    · subst hrq
      rw [hb] at e1
      cases e1
    · rw [if_neg hrq] at e2
      exact s.virt r cs e1 e2
   inj:=s.inj
   dat:=fun x i hxi=>⟨by
    obtain ⟨u,hu⟩:=(s.dat x i hxi).1
    exact ⟨u,(hk x i hxi).trans hu⟩,(s.dat x i hxi).2⟩
   dat0:=s.dat0
   tkl:=s.tkl
   tok:=fun t g ht=>by
    obtain ⟨e1,e2⟩:=s.tok t g ht
    refine ⟨e1,fun hl => ?_⟩
    obtain ⟨q,hA,hB,hn,cs,et,fr,hh',hc,hi⟩:=e2 hl
    have hq:=hoth _ _ hh' (by simp)
    refine ⟨q,hA,hB,hn,cs,et,fr,hq,hc,fun i i1 i2=>⟨(hi i i1 i2).1,?_⟩⟩
    rw [World.frozen?_of_block (w:=w) (by rw [hh']; exact hq)]
    exact (hi i i1 i2).2
   tki:=s.tki
   lpl:=s.lpl
   loop:=fun j p st h1 h2=>by
    obtain ⟨k1,rec,k2,k3⟩:=s.loop j p st h1 h2
    exact ⟨k1,rec,hoth _ _ k2 (by simp),k3⟩
   lpi:=s.lpi
   dfr:=fun d hd=>⟨(s.dfr d hd).1,hoth _ _ (s.dfr d hd).2 (by simp)⟩
   dfn:=s.dfn }
end
end Go.AM
set_option linter.unusedVariables false
set_option linter.unusedSimpArgs false
namespace Go.AM
open Go.RowKit
section
variable {P:Program} {w:World} {G:GS}
theorem zoh {X:Type} {c:Bool} {a b:Option X} {r:X} (h:(bif c then a else b)=some r):a=some r∨b=some r:=by
 cases c
 · exact .inr h
 · exact .inl h
theorem zqs {x:Value} (h:RepV w G x .nils):x = .slice none 0 0:=by cases h; rfl
theorem zfg {X:Type} {cx:Cx X} {B0:Nat} {w0:Wd} {h:H} (st:St B0 w0 G h w) {ty:Nat} {x:Value} (hx:RepV w G x .nils) {k:AV→H→Option X} {r:X} (hk:newRowK cx ty h k=some r) :
 Good P B0 w0 G w k r ((Pure.pure (Next.value x):Sem Next).run P w):=by
 unfold newRowK at hk
 split at hk
 · rename_i τ hτ
   obtain ⟨hz,hk⟩:=zb hk
   rw [nblt] at hz
   obtain ⟨G',h1,h2,h3⟩:=st.virtRow hz
   rw [← zqs hx] at h3
   exact ⟨x,w,.inl rfl,_,G',_,h1,Keep.refl _ _,h2,h3,hk⟩
 · cases hk
theorem zoi {X:Type} {B0:Nat} {w0:Wd} {h:H} (s:St B0 w0 G h w) {t E:Nat} {ti:TI} (hti:TiOK P t ti) (hz0:ti.zero=[.nilp,.sl .u8 [] .full]) {k:AV→H→Option X} {r:X}
 (hk:k (.ref (h.bx.length+1) 0) { h with bx:=(h.bx++[[.row 1 (.u8t E) []]])++[[.bcell (h.bx.length+1) t,.ms h.bx.length 1 0 (.u8t E)]] }=some r):∃ v w',(Instr.alloc t true (.tuple #[])).run P w = .ok v w'∧Ends B0 w0 G w k r v w':=by
 obtain ⟨z,hz,hR⟩:=zw (w:=w) hti (fun e=>by rw [e] at hz0; cases hz0)
 obtain ⟨G1,x1,s1,m1⟩:=s.virtRow (τ:=.u8t E) (show 0<1 from Nat.one_pos)
 have hR1:=hR w G1
 rw [hz0] at hR1
 obtain ⟨v1,v2,hzc,r1,r2⟩:=hR1.two
 have hv1:v1 = .pointer none:=by cases r1; rfl
 obtain ⟨A,cap,hv2,hlc,_,hcap⟩:=zcc r2
 obtain ⟨A',hcap⟩:=hcap
 rw [hv2] at hcap
 simp only [List.length_nil,Value.slice.injEq,true_and] at hcap
 obtain ⟨_,rfl⟩:=hcap
 have hml:RepV w G1 v2 (.ms h.bx.length 1 0 (.u8t E)):=by
  rw [hv2]
  cases m1 with
  | ms _ _ _ _ _ h0 hs h' =>
   obtain ⟨q,hb,hle,hcur⟩:=h'
   refine .ms _ _ _ _ _ h0 ⟨A,0,rfl,fun h=>absurd h (by omega)⟩ ⟨q,hb,hle,fun e => ?_⟩
   obtain ⟨e1,e2,A2,e3,e4⟩:=hcur e
   simp only [Value.slice.injEq,true_and] at e3
   refine ⟨e1,e2,A,by rw [← e3.2]; rfl,fun b hb' => ?_⟩
   have:=e4 b hb'
   rw [← e3.1] at this
   cases this
 obtain ⟨G2,x2,k2,s2,b2,v2',_⟩:=s1.addBox (vs:=z.cells) (cs:=[.bcell (h.bx.length+1) t,.ms h.bx.length 1 0 (.u8t E)]) t ⟨0,0,0,0⟩ (fun G' hx hg hb hk'=>by
  refine .box _ _ rfl (by rw [hg]) ?_
  rw [hzc]
  have e:(h.bx++[[AV.row 1 (.u8t E) []]]).length=h.bx.length+1:=by simp
  refine .cons (.bcell _ _ w.heap.size _ ?_ ?_ (.inl hv1)) (.cons (hml.mono hx hk') .nil)
  · rw [← e]; exact hb
  · rw [← e,hg]) (fun T hT=>by simp only [tyOf,Option.some.injEq] at hT; exact hT)
 have e:(h.bx++[[AV.row 1 (.u8t E) []]]).length=h.bx.length+1:=by simp
 refine ⟨.pointer (some ⟨w.heap.size,0,none⟩),w.alloc (.cells z.cells t),?_,.ref (h.bx.length+1) 0,G2,_,x1.trans (x2.mono (zad x1)),fun b o hd=>k2 b o (x1.D b o hd),s2,.ref _ _ _ (by rw [← e]; exact b2) (by rw [← e,v2']),hk⟩
 simp [Instr.alloc,hz,newVar,newRow]
theorem zqt {v:Value} {τ:Ty} {l:List τ.den} (h:RepV w G v (.sl τ l .unk)) (hc:CapOK G v l.length τ.size .full):RepV w G v (.sl τ l .full):=by
 cases h with
 | sl _ _ _ _ hR _=>exact .sl _ _ _ _ hR hc
theorem zoj {X:Type} {B0:Nat} {w0:Wd} {h:H} (st:St B0 w0 G h w) {s et:TypeId} (hs:P.underlying s=some (.slice et)) (he:P.underlying et=some (.int .u8)) {x:Value} {r v n:Nat} {τ:Ty} (hx:RepV w G x (.ms r v n τ)) (hn:0<n)
 {k:AV→H→Option X} {res:X} (hk:(rowK h r v τ fun l=>k (.sl τ l (bif Nat.beq v 1 then .full else .unk)) { h with bx:=upd h.bx r [.row (v+1) τ []] })=some res):∃ w',(convert s s x).run P w = .ok x w'∧Ends B0 w0 G w k res x w':=by
 obtain ⟨l,hq,hk2,_⟩:=zv hk
 clear hk
 obtain ⟨q,cap,R⟩:=st.rowAt hq (zcv hx)
 obtain ⟨G',h1,h2,h3,h4,h5⟩:=st.freeze hq hx
 obtain ⟨rfl,A,rfl,hA⟩:=R.ms hx
 replace h3:RepV w G' (.slice A l.length cap) (.sl τ l (bif Nat.beq v 1 then .full else .unk)):=by
  cases hv1:Nat.beq v 1 with
  | false=>exact h3
  | true =>
   rw [cond_true]
   exact zqt h3 ⟨A,by rw [R.v1 (nbeq.1 hv1)]⟩
 rcases R.wh with ⟨_,e2,_⟩ | ⟨b,vs,t,e,hB,hh,hsz,hl⟩
 · subst e2; simp at hn
 obtain rfl:=hA b e
 have hbl:b<w.heap.size:=(Array.getElem?_eq_some_iff.1 hh).1
 have hsh:w.shape? b=some (t,vs.size):=by unfold World.shape?; rw [hh]
 have hat:(w.freeze ⟨b,vs.size,none⟩ 1).heap[b]? = some (.cells vs t (vs.size,vs.size+1)):=by
  unfold World.freeze
  rw [if_neg (by decide)]
  simp [Array.getElem?_modify,hh]
 have hot:∀ j,j≠b→(w.freeze ⟨b,vs.size,none⟩ 1).heap[j]? = w.heap[j]?:=fun j hj=>by
  unfold World.freeze
  rw [if_neg (by decide)]
  simp [Array.getElem?_modify,Ne.symm hj]
 have hgr:w.grownBy (w.freeze ⟨b,vs.size,none⟩ 1) (some b):=by
  refine ⟨?_,?_,?_,?_,fun j _ hj=>hot j (fun e=>hj (by rw [e]))⟩
  all_goals (unfold World.freeze; rw [if_neg (by decide)]; try simp)
 refine ⟨w.freeze ⟨b,vs.size,none⟩ 1,?_,?_⟩
 · simp [convert,run_underlying hs,run_underlying he,markStringish,hsh]
 · obtain ⟨hkp,hst⟩:=h2.other hgr hB (fun o _=>by rw [zr hat,zr hh]) ⟨_,_,_,hh⟩ (fun hm=>by
    rw [h4] at hm
    obtain ⟨y,hy⟩:=List.getElem?_of_mem hm
    rw [List.getElem?_set] at hy
    have hrl:r<G.bx.length:=(List.getElem?_eq_some_iff.1 R.hb).1
    split at hy
    · simp [hrl] at hy
    · rename_i hne
      exact hne (st.inj r y b (by rw [R.hb,e]) hy)) (fun t0 g h0 hlt hAe=>by
    rw [h5] at h0
    obtain ⟨b',hA',_,hnb,_⟩:=(st.tok t0 g h0).2 hlt
    rw [hAe] at hA'
    obtain rfl:=Option.some.inj hA'
    exact hnb (by rw [← e]; exact List.mem_of_getElem? R.hb))
   exact ⟨_,G',_,h1,fun b o hd=>hkp b o (h1.D b o hd),hst,h3.mono (Ext.refl (Base.le_refl _)) hkp,hk2⟩
theorem zqu {X:Type} {cx:Cx X} (hT:TabOK P cx.tab) {B0:Nat} {w0:Wd} {h:H} (st:St B0 w0 G h w) {a:Act} {e:Env} {N:Nat} (he:EnvR w G N a.tmps e) (o:Oper) (hrow:isRowOp cx o e=true)
 {k:AV→H→Option X} {r:X} (hk:opR cx o e h k=some r):Good P B0 w0 G w k r ((execOp a.eval o).run P w):=by
 unfold opR at hk
 unfold isRowOp at hrow
 unfold execOp
 split at hk
 · rename_i t ho
   simp only [ho] at hrow ⊢
   obtain ⟨_,hk⟩:=zb hk
   obtain ⟨G',g1,g2,g3,g4,g5,_⟩:=st.addObj (ob:=.map #[] 0) (cs:=[.mp []]) ⟨0,0,0,0⟩ (fun G' hx hg hb hk' => .mp #[] 0 [] (by rw [hg]) rfl)
   exact Good.v' (v:=.map (some w.heap.size)) (w':=w.alloc (.map #[] 0)) (by simp [Instr.makeMap,Result.andThen]) ⟨_,G',_,g1,g2,g3,.mref _ _ g4 (by rw [g5]),hk⟩
 · rename_i t m x ho
   simp only [ho] at hrow ⊢
   obtain ⟨hm,hk⟩:=zb hk
   obtain ⟨kt,et,ti,tk,te,q1,q2,q3,q4,q5,q6⟩:=zjj hm
   split at hk
   · rename_i rr s hme hxe
     split at hk
     · rename_i l hbx
       rw [zl] at hbx
       have hmx:=he.ev m
       have hxx:=he.ev x
       rw [hme] at hmx
       rw [hxe] at hxx
       obtain ⟨sb,hxv,hsb,_⟩:=zo hxx
       rw [hxv,zl2 sb hsb]
       generalize a.eval m=mv at hmx
       cases hmx with
       | mref _ b hb hv =>
        obtain ⟨_,ob,hh,hr⟩:=st.box _ _ _ hb hbx
        cases hr with
        | cells vs t0 _ h _=>exact absurd h (by intro hB; cases hB with | box _ hrow _ _=>simp [isRow] at hrow)
        | mp es c _ _ hl =>
         obtain ⟨z,hz,_⟩:=zw (w:=w) (hT _ _ q5) q6
         have d1:=(hT _ _ q1).d
         have d2:=(hT _ _ q3).d
         rw [q2] at d1
         rw [q4] at d2
         obtain ⟨v,g1,g2⟩:=zld (P:=P) (G:=G) d1 d2 hz hh hl s
         unfold mpLook at hk
         cases hg:mpGet l s with
         | none =>
          rw [hg] at hk g2
          exact Good.v st g1 g2 hk
         | some n =>
          rw [hg] at hk g2
          exact Good.v st g1 g2 hk
     · cases hk
   · cases hk
 · rename_i t m x y ho
   simp only [ho] at hrow ⊢
   obtain ⟨hm,hk⟩:=zb hk
   obtain ⟨kt,et,ti,tk,te,q1,q2,q3,q4,q5,q6⟩:=zjj hm
   split at hk
   · rename_i rr s n hme hxe hye
     split at hk
     · rename_i l hbx
       rw [zl] at hbx
       have hmx:=he.ev m
       have hxx:=he.ev x
       have hyy:=he.ev y
       rw [hme] at hmx
       rw [hxe] at hxx
       rw [hye] at hyy
       obtain ⟨sb,hxv,hsb,_⟩:=zo hxx
       obtain ⟨hyv,_⟩:=zj hyy
       rw [hxv,hyv,zl2 sb hsb]
       generalize a.eval m=mv at hmx
       cases hmx with
       | mref _ b hb hv =>
        obtain ⟨hB,ob,hh,hr⟩:=st.box _ _ _ hb hbx
        cases hr with
        | cells vs t0 _ h _=>exact absurd h (by intro hB; cases hB with | box _ hrow _ _=>simp [isRow] at hrow)
        | mp es c _ hv0 hl =>
         have d1:=(hT _ _ q1).d
         have d2:=(hT _ _ q3).d
         rw [q2] at d1
         rw [q4] at d2
         obtain ⟨es',c',g1,g2⟩:=zhe (P:=P) d1 d2 hh hl s n
         obtain ⟨k1,k2⟩:=st.setMap (c':=c') hb hh hB hv0 g2
         exact ⟨undef,_,.inr ⟨by simp [Sem.run_bind,g1],rfl⟩,.tup [],G,_,Ext.refl (Base.le_refl _),k1,k2,zap _ _,hk⟩
     · cases hk
   · cases hk
 · rename_i x ho
   simp only [ho] at hrow ⊢
   have hx:=he.ev x
   split at hrow
   · rename_i hn
     rw [hn] at hx
     exact zfg st hx hk
   · cases hrow
 · rename_i x ho
   simp only [ho] at hrow ⊢
   have hx:=he.ev x
   split at hrow
   · rename_i hn
     rw [hn] at hx
     exact zfg st hx hk
   · cases hrow
 · rename_i t len parts ho
   simp only [ho]
   split at hk
   · rename_i et _ _ _ _ _ _ ht
     split at hk
     · rename_i ti hei
       split at hk
       · rename_i τ hτ
         split at hk
         · rename_i l hl
           obtain ⟨hc,hk⟩:=zb hk
           simp only [Bool.and_eq_true,nbeq,nblt,nble] at hc
           obtain ⟨⟨⟨⟨⟨c1,c2⟩,c4⟩,c5⟩,c6⟩,c7⟩:=hc
           obtain ⟨v,w',h1,h2⟩:=zhc hT he st ht rfl hei hl c1 c2 c4 c5 c6 c7 hk
           exact Good.v' h1 h2
         · cases hk
       · cases hk
     · cases hk
   · cases hk
 · rename_i t x ho
   simp only [ho]
   have hx:=he.ev x
   split at hk
   · rename_i ti ht
     split at hk
     · rename_i rr v i off τ hxx
       rw [hxx] at hx
       obtain ⟨l,hq,hk,_⟩:=zv hk
       obtain ⟨el,hel,hk⟩:=Option.bind_eq_some_iff.1 hk
       split at hk
       · rename_i cs hcs
         split at hk
         · rename_i av hav
           obtain ⟨u,h1,h2⟩:=zqr st (hT t ti ht) hx hq hel hcs hav
           exact Good.v st h1 h2 hk
         · cases hk
       · cases hk
     · cases hk
   · cases hk
 · rename_i t x y ho
   simp only [ho]
   have hx:=he.ev x
   split at hk
   · rename_i ti ht
     have hy:=zac (he.ev y) ti.ty
     split at hk
     · rename_i rr v i off τ hxx
       rw [hxx] at hx
       obtain ⟨hc,hk⟩:=zb hk
       simp only [Bool.and_eq_true,nbeq,nblt] at hc
       obtain ⟨⟨c1,c2⟩,c3⟩:=hc
       obtain ⟨l,hq,hk,_⟩:=zv hk
       obtain ⟨el,hel,hk⟩:=Option.bind_eq_some_iff.1 hk
       split at hk
       · rename_i ds hds
         split at hk
         · rename_i z hz
           obtain ⟨w',h1,h2,h3⟩:=zof st (hT t ti ht) hx hq hy c1 c2 c3 hel hds hz
           exact ⟨undef,w',.inr ⟨by simp [Sem.run_bind,h1],rfl⟩,.tup [],G,_,Ext.refl (Base.le_refl _),h2,h3,zap _ _,hk⟩
         · cases hk
       · cases hk
     · have hk:=zoh hk
       rcases hk with hk | hk
       · split at hk
         · rename_i h'' hs
           obtain ⟨w',g1,g2,g3⟩:=zcb st (hT t ti ht) hx hy hs
           exact ⟨undef,w',.inr ⟨by simp [Sem.run_bind,g1],rfl⟩,.tup [],G,h'',Ext.refl (Base.le_refl _),g2,g3,zap _ _,hk⟩
         · cases hk
       obtain ⟨a',G',h',h1,h2,h3,hk⟩:=zcg st hy hk
       split at hk
       · rename_i h'' hs
         obtain ⟨w',g1,g2,g3⟩:=zcb h2 (hT t ti ht) (hx.mono h1 (Keep.refl _ _)) h3 hs
         exact ⟨undef,w',.inr ⟨by simp [Sem.run_bind,g1],rfl⟩,.tup [],G',h'',h1,fun b o hd=>g2 b o (h1.D b o hd),g3,zap _ _,hk⟩
       · cases hk
   · cases hk
 · rename_i t x f ho
   simp only [ho]
   have hx:=he.ev x
   split at hk
   · rename_i fs _ _ _ _ _ _ ht
     split at hk
     · rename_i off ft hn
       split at hk
       · rename_i fi hfi
         obtain ⟨hc,hk⟩:=zb hk
         simp only [nblt] at hc
         obtain ⟨fields,fd,hu,hfd,ho1,ho2⟩:=zco hT ht rfl hn hfi
         have hsz:(sizeOf fd.type).run P w = .ok fi.size w:=by rw [ho2]; exact zq (hT ft fi hfi)
         have hrun:∀ (b oo:Nat),(Instr.fieldAt t (.pointer (some ⟨b,oo,none⟩)) f).run P w = .ok (.pointer (some ⟨b,oo+off,none⟩)) w:=by
          intro b oo
          have hne:fi.size≠0:=by omega
          simp [Instr.fieldAt,Sem.run_bind,run_underlying hu,hfd,Instr.sureAddr,fieldPlace,hsz,hne,addp,ho1]
         split at hk
         · rename_i rr v i oo τ hxx
           rw [hxx] at hx
           generalize a.eval x=xv at hx
           cases hx with
           | ep _ _ _ _ _ _ h0 hs h =>
            obtain ⟨b,ob,rfl⟩:=hs
            refine Good.v st (hrun b ob) (.ep _ _ _ _ _ _ h0 ⟨b,_,rfl⟩ ?_) hk
            obtain ⟨q,hb,hle,hcur⟩:=h
            refine ⟨q,hb,hle,fun ee => ?_⟩
            obtain ⟨e1,e2,e3,e4⟩:=hcur ee
            refine ⟨e1,e2,e3,fun b' hb' => ?_⟩
            have:=e4 b' hb'
            simp only [Value.pointer.injEq,Option.some.injEq,Addr.mk.injEq,and_true] at this ⊢
            obtain ⟨rfl,rfl⟩:=this
            exact ⟨rfl,by omega⟩
         · cases hk
       · cases hk
     · cases hk
   · cases hk
 · rename_i t x i ho
   simp only [ho]
   have hx:=he.ev x
   have hi:=he.ev i
   split at hk
   · rename_i et _ _ _ _ _ _ ht
     split at hk
     · rename_i ti hei
       split at hk
       · rename_i rr v n τ qk j hxx hii
         obtain ⟨hc,hk⟩:=zb hk
         simp only [Bool.and_eq_true,nbeq,decide_eq_true_eq] at hc
         obtain ⟨c1,c2,c3⟩:=hc
         rw [hxx] at hx
         rw [hii] at hi
         obtain ⟨hiv,_⟩:=zj hi
         rw [hiv]
         obtain ⟨m,rfl⟩:=Int.eq_ofNat_of_zero_le c2
         have hm:m<n:=by omega
         have hu:=(hT t _ ht).d
         have hsz:=zq (w:=w) (hT et ti hei)
         generalize a.eval x=xv at hx
         cases hx with
         | ms _ _ _ _ _ h0 hs h =>
          obtain ⟨A,cc,rfl,hA⟩:=hs
          obtain ⟨b,oo,rfl⟩:=hA (by omega)
          have hrun:(Instr.indexAt t (.slice (some ⟨b,oo,none⟩) n cc) (.int qk (m:Int))).run P w = .ok (.pointer (some ⟨b,oo+m*ti.size,none⟩)) w:=by
           simp [Instr.indexAt,asIntOf,Sem.run_bind,run_underlying hu,hsz,addp,hm]
          refine Good.v st hrun (.ep _ _ _ _ _ _ h0 ⟨b,_,rfl⟩ ?_) hk
          obtain ⟨q,hb,hle,hcur⟩:=h
          refine ⟨q,hb,hle,fun ee => ?_⟩
          obtain ⟨e1,e2,A',e3,e4⟩:=hcur ee
          refine ⟨e1,by omega,by omega,fun b' hb' => ?_⟩
          have e5:=e4 b' hb'
          simp only [Value.slice.injEq] at e3
          obtain ⟨rfl,_⟩:=e3
          simp only [Option.some.injEq,Addr.mk.injEq,and_true] at e5
          obtain ⟨rfl,rfl⟩:=e5
          simp [c1]
       · cases hk
     · cases hk
   · cases hk
 · rename_i t x lo hi mx ho
   simp only [ho]
   split at hk
   · rename_i ti ht
     obtain ⟨a',G',h',h1,h2,h3,hk⟩:=zcg st (he.ev x) hk
     obtain ⟨v,av,g1,g2,g3⟩:=zec hT ht (he.mono h1 (Keep.refl _ _)) h3 hk
     exact ⟨v,w,.inl (by simp [Sem.run_bind,g1]),av,G',h',h1,Keep.refl _ _,h2,g2,g3⟩
   · cases hk
 · rename_i s d x ho
   simp only [ho]
   obtain ⟨hsd,hk1⟩:=zb hk
   clear hk
   have hsd:=nbeq.1 hsd
   subst hsd
   have hx:=he.ev x
   split at hk1
   · rename_i hs
     split at hk1
     · rename_i hee
       split at hk1
       · rename_i rr v n τ hxx
         rw [hxx] at hx
         obtain ⟨hn,hk2⟩:=zb hk1
         obtain ⟨w',g1,g2⟩:=zoj st (hT _ _ hs).d (hT _ _ hee).d hx (nblt.1 hn) hk2
         exact Good.v' g1 g2
       · cases hk1
     · cases hk1
   · cases hk1
 · rename_i c ho
   simp only [ho]
   split at hk
   · rename_i hb
     simp only [resolve,hb,Sem.run_bind,Sem.run_pure,Result.andThen_ok,invoke]
     split at hk
     · rename_i t x hts has
       split at hk
       · rename_i et _ _ _ _ _ _ ht
         split at hk
         · rename_i rr v n τ hxx
           have hd:=(hT t _ ht).d
           have hx:=he.ev x
           rw [hxx] at hx
           have hargs:c.args.map a.eval=#[a.eval x]:=Array.ext' (by simp [has])
           have hts':c.argTypes[0]? = some t:=by rw [← Array.getElem?_toList,hts]; rfl
           rw [hargs]
           generalize a.eval x=xv at hx
           cases hx with
           | ms _ _ _ _ _ h0 hs h =>
            obtain ⟨A,cc,rfl,hA⟩:=hs
            refine Good.v st (v:=goInt n) ?_ (.int _ _ (by intro e; cases e)) hk
            simp [Builtin.len_,hts',Sem.run_bind,run_underlying hd]
         · cases hk
       · cases hk
     · cases hk
   · rename_i hb
     simp only [resolve,hb,Sem.run_bind,Sem.run_pure,Result.andThen_ok,invoke]
     split at hk
     · rename_i t t2 s x hts has
       split at hk
       · rename_i et _ _ _ _ _ _ t2i ht ht2
         split at hk
         · rename_i ei hei
           split at hk
           · rename_i rr v n τ hss
             have hs:=he.ev s
             rw [hss] at hs
             obtain ⟨hc0,hk⟩:=zb hk
             simp only [Bool.and_eq_true] at hc0
             obtain ⟨d2,htd2,hd2⟩:∃ d2,P.underlying t2=some d2∧∀ k,d2 ≠ .int k:=by
              have htd2:=(hT t2 _ ht2).d
              have h0:=hc0.1
              unfold srcD at h0
              split at h0
              · cases h0
              · rename_i e2 _; rw [e2] at htd2; exact ⟨_,htd2,fun q=>by simp⟩
              · rename_i e2 _; rw [e2] at htd2; exact ⟨_,htd2,fun q=>by simp⟩
              · cases h0
             have hx:=zac (he.ev x) (ei.ty.map .sl)
             have hEi:=hT et ei hei
             obtain ⟨i,hi,his,hib,hiz⟩:=hEi.info
             have htd:=(hT t _ ht).d
             have hargs:c.args.map a.eval=#[a.eval s,a.eval x]:=Array.ext' (by simp [has])
             have htsa:c.argTypes=#[t,t2]:=Array.ext' (by simp [hts])
             by_cases hsz:ei.size=τ.size
             · obtain ⟨m,news,hsrc,hk⟩:=zog (P:=P) st hx hk (size:=i.size) (by omega)
               obtain ⟨l,hq,hk,_⟩:=zv hk
               obtain ⟨hc,hk⟩:=zb hk
               simp only [Bool.and_eq_true,nbeq,nblt] at hc
               obtain ⟨⟨c1,c2⟩,c3⟩:=hc
               obtain ⟨hc,hk⟩:=zb hk
               simp only [Bool.and_eq_true,decide_eq_true_eq] at hc
               obtain ⟨b1,b2,b3⟩:=hc
               obtain ⟨z,hz0,hzr⟩:=hiz (fun e=>by rw [e] at c2; simp at c2; omega)
               have hzs:z.cells.size=i.size:=by
                have:=(hzr w G).1
                simp at this
                omega
               obtain ⟨val,w',g1,g2⟩:=zmy (ty:=o.type) st htd htd2 hd2 hi hz0 hzs (by omega) hc0.2 hs hq hsrc (by rw [hib]; exact b1) (by rw [hib]; exact b2) (by rw [hib]; exact b3) hk
               rw [hargs,htsa]
               exact Good.v' g1 g2
             · exfalso
               have hno:∀ y:Option X,(bif Nat.beq ei.size τ.size&&Nat.beq ei.zero.length ei.size&&Nat.blt 0 ei.size then y else none)=none:=fun y=>by
                have:Nat.beq ei.size τ.size=false:=by
                 cases hh:Nat.beq ei.size τ.size
                 · rfl
                 · exact absurd (nbeq.1 hh) hsz
                rw [this]; rfl
               unfold srcK at hk
               split at hk
               · split at hk
                 · obtain ⟨l,hq,hk,_⟩:=zv hk
                   rw [hno] at hk; cases hk
                 · obtain ⟨l,hq,hk,_⟩:=zv hk
                   rw [hno] at hk; cases hk
                 · cases hk
               · split at hk
                 · obtain ⟨l,hq,hk,_⟩:=zv hk
                   rw [hno] at hk; cases hk
                 · cases hk
               · split at hk
                 · obtain ⟨l,hq,hk,_⟩:=zv hk
                   obtain ⟨l,hq,hk,_⟩:=zv hk
                   rw [hno] at hk; cases hk
                 · cases hk
               · cases hk
           · have hargs:RepL w G (c.args.map a.eval).toList (evs cx e c.argTypes.toList c.args.toList):=by
              rw [Array.toList_map]
              exact zcu cx he _ _
             obtain ⟨aS,G',h',e1,s1,r1,_,hk2⟩:=zch _ _ _ _ _ _ st hargs hk
             have hg:∀ cs,Good P B0 w0 G w k r ((builtin .append c.argTypes o.type cs (c.args.map a.eval)).run P w):=fun cs=>by
              obtain ⟨v,w',g1,av,G2,h2,hx,hkp,st2,hv,hk3⟩:=zee (ty:=o.type) (cs:=cs) hT s1 r1 hk2
              exact ⟨v,w',g1,av,G2,h2,e1.trans (hx.mono (zad e1)),fun b o hd=>hkp b o (e1.D b o hd),st2,hv,hk3⟩
             exact hg _
         · cases hk
       · cases hk
     · cases hk
   · cases hk
 · rename_i t ho
   simp only [ho]
   split at hk
   · rename_i T E hbt
     obtain ⟨hc,hk⟩:=zb hk
     rw [nbeq] at hc
     subst hc
     split at hk
     · rename_i ti ht
       split at hk
       · rename_i hz
         obtain ⟨hc,hk⟩:=zb hk
         obtain ⟨v,w',h1,h2⟩:=zoi st (hT t ti ht) hz hk
         exact Good.v' h1 h2
       · cases hk
     · cases hk
   · cases hk
 · cases hk
theorem zqv {X:Type} {cx:Cx X} {O:Open X} {Y:Ys} (hT:TabOK P cx.tab) {B0:Nat} {w0:Wd} {h:H} (st:St B0 w0 G h w) {a:Act} {e:Env} {N:Nat} (he:EnvR w G N a.tmps e) (o:Oper)
 (hnc:∀ c f,o.op = .call c→c.callee ≠ .value f) {k:AV→H→Option X} {r:X} (hk:opX cx O Y o e h k=some r):Good P B0 w0 G w k r ((execOp a.eval o).run P w):=by
 unfold opX at hk
 cases hr:isRowOp cx o e with
 | true=>rw [hr,cond_true] at hk; exact zqu hT st he o hr hk
 | false=>rw [hr,cond_false] at hk; exact zqq hT st he o hnc hk
theorem zmz {X:Type} {cx:Cx X} {o:Oper} {e:Env} {c:Call} {f:Operand} (hc:o.op = .call c) (hf:c.callee = .value f):isRowOp cx o e=false:=by
 unfold isRowOp
 simp only [hc,hf]
theorem zle {X:Type} {cx:Cx X} {o:Oper} {e:Env} {c:Call} (hc:o.op = .defer c):isRowOp cx o e=false:=by
 unfold isRowOp
 simp only [hc]
end
end Go.AM
set_option linter.unusedVariables false
set_option linter.unusedSimpArgs false
namespace Go.AM
open Go.RowKit
section
variable {w:World} {G:GS} {m tm lm:Nat} {ks:List Bool}
def GS.cut (G:GS) (m lm:Nat) (F:List (Option Tk)):GS:={ G with bx:=G.bx.take m,tk:=F,lp:=G.lp.take lm }
theorem zl3 {v:Value} {a:AV} {F:List (Option Tk)} (hF:∀ i:Nat,i<tm→F[i]? = G.tk[i]? ∨ F[i]? = some none) (h:RepV w G v a):okF m tm lm a=true→RepV w (G.cut m lm F) v a:=by
 have hL:∀ {cs:List AV},okFL m tm lm cs=true→∀ (i:Nat) (c:AV),cs[i]? = some c→okF m tm lm c=true:=by
  intro cs
  induction cs with
  | nil=>intro _ i c h; simp at h
  | cons d ds ih =>
   intro h i c hc
   simp only [okFL,Bool.and_eq_true] at h
   cases i with
   | zero=>simp at hc; subst hc; exact h.1
   | succ i=>exact ih h.2 i c (by simpa using hc)
 induction h with
 | any v=>intro _; exact .any v
 | bool b=>intro _; exact .bool b
 | int k n h=>intro _; exact .int k n h
 | str s l h hl=>intro _; exact .str s l h hl
 | sl τ l c v h hc =>
  intro ho
  refine .sl τ l c v h ?_
  cases c with
  | full=>exact hc
  | unk=>trivial
  | fresh=>trivial
  | own t =>
   simp only [okF,nblt] at ho
   obtain ⟨o,h1,h2⟩:=hc
   rcases hF t ho with e | e
   · exact ⟨o,e.trans h1,h2⟩
   · exact ⟨none,e,fun g hg=>by cases hg⟩
 | nils=>intro _; exact .nils
 | agg vs cs hl _ ih =>
  intro ho
  simp only [okF] at ho
  exact .agg vs cs hl fun i v c hv hc=>ih i v c hv hc (hL ho i c hc)
 | tup vs cs hl _ ih =>
  intro ho
  simp only [okF] at ho
  exact .tup vs cs hl fun i v c hv hc=>ih i v c hv hc (hL ho i c hc)
 | nilp=>intro _; exact .nilp
 | ref r off b h hv =>
  intro ho
  simp only [okF,nblt] at ho
  exact .ref r off b (by simp only [GS.cut]; rw [List.getElem?_take_of_lt ho]; exact h) hv
 | ms r v n τ x h0 hs h =>
  intro ho
  simp only [okF,nblt] at ho
  obtain ⟨b,hb,h⟩:=h
  exact .ms r v n τ x h0 hs ⟨b,by simp only [GS.cut]; rw [List.getElem?_take_of_lt ho]; exact hb,h⟩
 | ep r v i off τ x h0 hs h =>
  intro ho
  simp only [okF,nblt] at ho
  obtain ⟨b,hb,h⟩:=h
  exact .ep r v i off τ x h0 hs ⟨b,by simp only [GS.cut]; rw [List.getElem?_take_of_lt ho]; exact hb,h⟩
 | imm b o us cs hl hm _ ih =>
  intro ho
  simp only [okF] at ho
  exact .imm b o us cs hl hm fun i v c hv hc=>ih i v c hv hc (hL ho i c hc)
 | imms n b o c us cs h0 hc hl hm _ ih =>
  intro ho
  simp only [okF] at ho
  exact .imms n b o c us cs h0 hc hl hm fun i v c hv hc=>ih i v c hv hc (hL ho i c hc)
 | bcell r T b v h hv hp =>
  intro ho
  simp only [okF,nblt] at ho
  exact .bcell r T b v (by simp only [GS.cut]; rw [List.getElem?_take_of_lt ho]; exact h) hv hp
 | mref r b h hv =>
  intro ho
  simp only [okF,nblt] at ho
  exact .mref r b (by simp only [GS.cut]; rw [List.getElem?_take_of_lt ho]; exact h) hv
 | nilfn=>intro _; exact .nilfn
 | fn f x y a b hx _ hy _ i1 i2 =>
  intro ho
  simp only [okF,Bool.and_eq_true] at ho
  exact .fn f x y a b hx (fun i v c hv hc=>i1 i v c hv hc (hL ho.1 i c hc)) hy fun i v c hv hc=>i2 i v c hv hc (hL ho.2 i c hc)
 | yield j p h =>
  intro ho
  simp only [okF,nblt] at ho
  exact .yield j p (by simp only [GS.cut]; rw [List.getElem?_take_of_lt ho]; exact h)
 | err0=>intro _; exact .err0
 | err1 t x=>intro _; exact .err1 t x
structure TokL (B0:Nat) (G:GS) (w:World) (L:List (Option Tk)):Prop where
 tok:∀ (t:Nat) (g:Tk),L[t]? = some (some g)→TkOK B0 G w g
 tki:∀ (t t':Nat) (g g':Tk),L[t]? = some (some g)→L[t']? = some (some g')→t≠t'→g.n<g.cap→g'.n<g'.cap→g.A≠g'.A
def Less (T T':List (Option Tk)):Prop:=T'.length=T.length∧∀ i:Nat,T'[i]? = T[i]? ∨ T'[i]? = some none
theorem Less.refl (T:List (Option Tk)):Less T T:=⟨rfl,fun _ => .inl rfl⟩
theorem Less.trans {A B C:List (Option Tk)} (h:Less A B) (k:Less B C):Less A C:=⟨k.1.trans h.1,fun i=>by
 rcases k.2 i with e | e
 · rw [e]; exact h.2 i
 · exact .inr e⟩
theorem Less.set (T:List (Option Tk)) (t:Nat):Less T (T.set t none):=⟨by simp,fun i=>by
 rw [List.getElem?_set]
 by_cases h:t=i
 · subst h
   by_cases h2:t<T.length
   · simp [h2]
   · left; simp [h2]
 · simp [h]⟩
theorem zdd {T T':List (Option Tk)} (hl:Less T T') {v:Value} {a:AV} (h:RepV w { G with tk:=T } v a):RepV w { G with tk:=T' } v a:=by
 generalize hG:({ G with tk:=T }:GS)=G1 at h
 induction h with
 | any v=>exact .any v
 | bool b=>exact .bool b
 | int k n h=>exact .int k n h
 | str s l h hl=>exact .str s l h hl
 | sl τ l c v h hc =>
  subst hG
  refine .sl τ l c v h ?_
  cases c with
  | full=>exact hc
  | unk=>trivial
  | fresh=>trivial
  | own t =>
   obtain ⟨o,h1,h2⟩:=hc
   rcases hl.2 t with e | e
   · exact ⟨o,e.trans h1,h2⟩
   · exact ⟨none,e,fun g hg=>by cases hg⟩
 | nils=>exact .nils
 | agg vs cs hl _ ih=>exact .agg vs cs hl fun i v c hv hc=>ih i v c hv hc
 | tup vs cs hl _ ih=>exact .tup vs cs hl fun i v c hv hc=>ih i v c hv hc
 | nilp=>exact .nilp
 | ref r off b h hv=>subst hG; exact .ref r off b h hv
 | ms r v n τ x h0 hs h=>subst hG; exact .ms r v n τ x h0 hs h
 | ep r v i off τ x h0 hs h=>subst hG; exact .ep r v i off τ x h0 hs h
 | imm b o us cs hl hm _ ih=>subst hG; exact .imm b o us cs hl hm fun i v c hv hc=>ih i v c hv hc
 | imms n b o c us cs h0 hc hl hm _ ih=>subst hG; exact .imms n b o c us cs h0 hc hl hm fun i v c hv hc=>ih i v c hv hc
 | bcell r T b v h hv hp=>subst hG; exact .bcell r T b v h hv hp
 | mref r b h hv=>subst hG; exact .mref r b h hv
 | nilfn=>exact .nilfn
 | fn f x y a b hx _ hy _ i1 i2=>exact .fn f x y a b hx (fun i v c hv hc=>i1 i v c hv hc) hy fun i v c hv hc=>i2 i v c hv hc
 | yield j p h=>subst hG; exact .yield j p h
 | err0=>exact .err0
 | err1 t x=>exact .err1 t x
structure NI (B0:Nat) (G:GS) (w:World) (tm:Nat) (T N:List (Option Tk)) (tk nw:List (Option Nat)):Prop where
 hT:tk=T.map (Option.map Tk.n)
 hN:nw=N.map (Option.map Tk.n)
 less:Less G.tk T
 tok:TokL B0 G w (T++N)
def Fits (T:List (Option Tk)) (tm:Nat) (N F:List (Option Tk)):Prop:=(∀ i:Nat,i<tm→F[i]? = T[i]? ∨ F[i]? = some none)∧∀ p:Nat,p<N.length→F[tm+p]? = N[p]? ∨ F[tm+p]? = some none
theorem Fits.mono {T T' N N' F:List (Option Tk)} (h:Fits T' tm N' F) (hl:Less T T') {x:List (Option Tk)} (hx:N'=N++x):Fits T tm N F:=⟨fun i hi=>by
 rcases h.1 i hi with e | e
 · rw [e]; exact hl.2 i
 · exact .inr e,fun p hp=>by
 have:=h.2 p (by rw [hx]; simp; omega)
 rwa [hx,List.getElem?_append_left hp] at this⟩
def NStep (B0:Nat) (G:GS) (w:World) (tm:Nat) (T N:List (Option Tk)) (r:List (Option Nat)×List (Option Nat)) (good:List (Option Tk)→Prop):Prop:=
 ∃ T' N',NI B0 G w tm T' N' r.1 r.2∧Less T T'∧(∃ x,N'=N++x)∧∀ F,Fits T' tm N' F→good F
theorem zci {B0 : Nat} {T N:List (Option Tk)} {tk nw:List (Option Nat)} (hi:NI B0 G w tm T N tk nw) {v:Value} {a:AV} (hv:RepV w { G with tk:=T } v a) (ho:okR1 m tm lm a=true) :
 NStep B0 G w tm T N (rn1 ks tm tk nw a).2 fun F=>RepV w (G.cut m lm F) v (rn1 ks tm tk nw a).1:=by
 have stay:∀ {b:AV},RepV w { G with tk:=T } v b→okF m tm lm b=true→NStep B0 G w tm T N (tk,nw) fun F=>RepV w (G.cut m lm F) v b:=fun hb hk =>
  ⟨T,N,hi,Less.refl _,⟨[],by simp⟩,fun F hF=>zl3 (G:={ G with tk:=T }) (F:=F) hF.1 hb hk⟩
 cases a with
 | sl τ l c =>
  have hsl:RepC w G.D (.sl τ) l [v]:=by cases hv with | sl _ _ _ _ h _=>exact h
  have hcap:CapOK { G with tk:=T } v l.length τ.size c:=by cases hv with | sl _ _ _ _ _ h=>exact h
  cases c with
  | full =>
   obtain ⟨A,hA⟩:=hcap
   refine ⟨T,N++[some ⟨l.length,none,l.length,τ.size⟩],⟨hi.hT,by simp [rn1,hi.hN],hi.less,?_,?_⟩,Less.refl _,⟨_,rfl⟩,fun F hF => ?_⟩
   · intro t g hg
     rw [← List.append_assoc] at hg
     by_cases ht:t<(T++N).length
     · rw [List.getElem?_append_left ht] at hg; exact hi.tok.tok t g hg
     · rw [List.getElem?_append_right (by omega)] at hg
       have:t - (T++N).length=0:=by
        have:=(List.getElem?_eq_some_iff.1 hg).1
        simp at this ⊢
        omega
       rw [this] at hg
       simp at hg
       subst hg
       exact ⟨Nat.le_refl _,fun h=>absurd h (Nat.lt_irrefl _)⟩
   · have key:∀ (t:Nat) (g:Tk),(T++(N++[some ⟨l.length,none,l.length,τ.size⟩]))[t]? = some (some g)→g.n<g.cap→(T++N)[t]? = some (some g):=by
      intro t g hg hlt
      rw [← List.append_assoc] at hg
      by_cases ht:t<(T++N).length
      · rw [List.getElem?_append_left ht] at hg; exact hg
      · rw [List.getElem?_append_right (by omega)] at hg
        have:t - (T++N).length=0:=by
         have:=(List.getElem?_eq_some_iff.1 hg).1
         simp at this ⊢
         omega
        rw [this] at hg
        simp at hg
        subst hg
        exact absurd hlt (Nat.lt_irrefl _)
     exact fun t t' g g' h1 h2 hne l1 l2=>hi.tok.tki t t' g g' (key t g h1 l1) (key t' g' h2 l2) hne l1 l2
   · have hp:=hF.2 N.length (by simp)
     simp only [rn1,hi.hN,List.length_map]
     rw [List.getElem?_append_right (Nat.le_refl _),Nat.sub_self] at hp
     rcases hp with hp | hp
     rotate_left
     · exact .sl τ l _ v hsl ⟨none,hp,fun g hg=>by cases hg⟩
     refine .sl τ l _ v hsl ⟨some ⟨l.length,none,l.length,τ.size⟩,hp,fun g hg => ?_⟩
     · obtain rfl:=Option.some.inj hg
       exact ⟨Nat.le_refl _,fun _=>⟨rfl,A,hA,fun h=>absurd h (Nat.lt_irrefl _)⟩⟩
  | own t =>
   simp only [rn1]
   cases hb:(Nat.blt t tm&&(nth ks t).getD true) with
   | true=>exact stay hv (by simp only [Bool.and_eq_true] at hb; simpa [okF] using hb.1)
   | false =>
    simp only [cond_false]
    obtain ⟨o,hto,hg⟩:=hcap
    have htl:t<T.length:=(List.getElem?_eq_some_iff.1 hto).1
    refine ⟨T.set t none,N++[o],⟨?_,?_,hi.less.trans (Less.set T t),?_,?_⟩,Less.set T t,⟨_,rfl⟩,fun F hF => ?_⟩
    · rw [zk,hi.hT,List.map_set]; rfl
    · rw [hi.hN,hi.hT,zl,List.getElem?_map]
      simp only at hto
      rw [hto]
      simp
    · intro t' g hgt
      by_cases ht':t'<T.length
      · rw [List.getElem?_append_left (by simpa using ht')] at hgt
        rw [List.getElem?_set] at hgt
        by_cases e:t=t'
        · subst e; simp [ht'] at hgt
        · rw [if_neg e] at hgt
          exact hi.tok.tok t' g (by rw [List.getElem?_append_left ht']; exact hgt)
      · rw [List.getElem?_append_right (by simp; omega)] at hgt
        simp only [List.length_set] at hgt
        by_cases hn:t' - T.length<N.length
        · rw [List.getElem?_append_left hn] at hgt
          exact hi.tok.tok t' g (by rw [List.getElem?_append_right (by omega)]; exact hgt)
        · rw [List.getElem?_append_right (by omega)] at hgt
          have e0:t' - T.length - N.length=0:=by
           have:=(List.getElem?_eq_some_iff.1 hgt).1
           simp at this
           omega
          rw [e0] at hgt
          simp at hgt
          subst hgt
          exact hi.tok.tok t g (by rw [List.getElem?_append_left htl]; exact hto)
    ·
     have key:∀ (t':Nat) (g:Tk),(T.set t none++(N++[o]))[t']? = some (some g)→(T++N)[if t'=T.length+N.length then t else t']? = some (some g)∧t'≠t:=by
      intro t' g hgt
      by_cases ht':t'<T.length
      · rw [if_neg (by omega)]
        rw [List.getElem?_append_left (by simpa using ht')] at hgt
        rw [List.getElem?_set] at hgt
        by_cases e:t=t'
        · subst e; simp [ht'] at hgt
        · rw [if_neg e] at hgt
          exact ⟨by rw [List.getElem?_append_left ht']; exact hgt,fun h=>e h.symm⟩
      · rw [List.getElem?_append_right (by simp; omega)] at hgt
        simp only [List.length_set] at hgt
        by_cases hn:t' - T.length<N.length
        · rw [if_neg (by omega)]
          rw [List.getElem?_append_left hn] at hgt
          exact ⟨by rw [List.getElem?_append_right (by omega)]; exact hgt,by omega⟩
        · rw [List.getElem?_append_right (by omega)] at hgt
          have e0:t' - T.length - N.length=0:=by
           have:=(List.getElem?_eq_some_iff.1 hgt).1
           simp at this
           omega
          rw [e0] at hgt
          simp at hgt
          subst hgt
          rw [if_pos (by omega)]
          exact ⟨by rw [List.getElem?_append_left htl]; exact hto,by omega⟩
     intro t1 t2 g g' h1 h2 hne l1 l2
     obtain ⟨k1,n1⟩:=key t1 g h1
     obtain ⟨k2,n2⟩:=key t2 g' h2
     refine hi.tok.tki _ _ g g' k1 k2 ?_ l1 l2
     split<;>split<;>omega
    · have hp:=hF.2 N.length (by simp)
      rw [hi.hN]
      simp only [List.length_map]
      rw [List.getElem?_append_right (Nat.le_refl _),Nat.sub_self] at hp
      rcases hp with hp | hp
      · exact .sl τ l _ v hsl ⟨o,hp,hg⟩
      · exact .sl τ l _ v hsl ⟨none,hp,fun g hg=>by cases hg⟩
  | unk=>exact ⟨T,N,hi,Less.refl _,⟨[],by simp⟩,fun F hF => .sl τ l _ v hsl trivial⟩
  | fresh=>exact ⟨T,N,hi,Less.refl _,⟨[],by simp⟩,fun F hF => .sl τ l _ v hsl trivial⟩
 | tup vs=>exact ⟨T,N,hi,Less.refl _,⟨[],by simp⟩,fun F hF => .any v⟩
 | _=>exact stay hv ho
theorem NStep.bind {B0:Nat} {T N:List (Option Tk)} {r r':List (Option Nat)×List (Option Nat)} {g1 g2 g:List (Option Tk)→Prop} (h:NStep B0 G w tm T N r g1)
 (k:∀ T' N',NI B0 G w tm T' N' r.1 r.2→Less T T'→NStep B0 G w tm T' N' r' g2) (hg:∀ F,g1 F→g2 F→g F):NStep B0 G w tm T N r' g:=by
 obtain ⟨T1,N1,hi,hl,⟨x,hx⟩,hF⟩:=h
 obtain ⟨T2,N2,hi2,hl2,⟨y,hy⟩,hF2⟩:=k T1 N1 hi hl
 exact ⟨T2,N2,hi2,hl.trans hl2,⟨x++y,by rw [hy,hx,List.append_assoc]⟩,fun F f=>hg F (hF F (f.mono hl2 hy)) (hF2 F f)⟩
theorem NStep.imp {B0:Nat} {T N:List (Option Tk)} {r:List (Option Nat)×List (Option Nat)} {g1 g:List (Option Tk)→Prop} (h:NStep B0 G w tm T N r g1) (hg:∀ F,g1 F→g F):NStep B0 G w tm T N r g:=by
 obtain ⟨T1,N1,hi,hl,hx,hF⟩:=h
 exact ⟨T1,N1,hi,hl,hx,fun F f=>hg F (hF F f)⟩
theorem zef {B0:Nat}:∀ (cs:List AV) (vs:List Value) (T N:List (Option Tk)) (tk nw:List (Option Nat)),NI B0 G w tm T N tk nw→RepL w { G with tk:=T } vs cs→okRL m tm lm cs=true →
 NStep B0 G w tm T N (rnL ks tm tk nw cs).2 fun F=>RepL w (G.cut m lm F) vs (rnL ks tm tk nw cs).1
 | [],vs,T,N,tk,nw,hi,hr,_=>by
  have:vs=[]:=List.eq_nil_of_length_eq_zero (by simpa using hr.1)
  subst this
  exact ⟨T,N,hi,Less.refl _,⟨[],by simp⟩,fun F _ => .nil⟩
 | c::cs,[],T,N,tk,nw,hi,hr,_=>by have:=hr.1; simp at this
 | c::cs,v::vs,T,N,tk,nw,hi,hr,ho=>by
  simp only [okRL,Bool.and_eq_true] at ho
  obtain ⟨h1,h2⟩:=hr.tail
  exact (zci (m:=m) (lm:=lm) hi h1 ho.1).bind (fun T' N' hi' hl'=>zef cs vs T' N' _ _ hi' ⟨h2.1,fun i v c a b=>zdd hl' (h2.2 i v c a b)⟩ ho.2) (fun F a b => .cons a b)
theorem zqw {B0:Nat} {T N:List (Option Tk)} {tk nw:List (Option Nat)} (hi:NI B0 G w tm T N tk nw) {v:Value} {a:AV} (hv:RepV w { G with tk:=T } v a) (ho:okR m tm lm a=true) :
 NStep B0 G w tm T N (rn ks tm tk nw a).2 fun F=>RepV w (G.cut m lm F) v (rn ks tm tk nw a).1:=by
 cases a with
 | agg cs =>
  cases hv with
  | agg vs _ hl h =>
   exact (zef (m:=m) (lm:=lm) cs vs.toList T N tk nw hi ⟨by simpa using hl,fun i v c a b=>h i v c (by simpa using a) b⟩ ho).imp fun F hF =>
    .agg _ _ (by simpa using hF.1) fun i v c a b=>hF.2 i v c (by simpa using a) b
 | _=>exact zci hi hv ho
theorem zh3 {B0:Nat} {tmps:Array Value}:∀ (e:Env) (T N:List (Option Tk)) (tk nw:List (Option Nat)),NI B0 G w tm T N tk nw→(∀ p∈e,RepV w { G with tk:=T } (tmps.getD p.1 undef) p.2)→okRE m tm lm e=true →
 NStep B0 G w tm T N (rnE ks tm tk nw e).2 fun F=>∀ p∈(rnE ks tm tk nw e).1,RepV w (G.cut m lm F) (tmps.getD p.1 undef) p.2
 | [],T,N,tk,nw,hi,hr,_=>⟨T,N,hi,Less.refl _,⟨[],by simp⟩,fun F _ p hp=>by simp [rnE] at hp⟩
 | (d,c)::e,T,N,tk,nw,hi,hr,ho=>by
  simp only [okRE,Bool.and_eq_true] at ho
  refine (zqw (m:=m) (lm:=lm) hi (hr (d,c) (by simp)) ho.1).bind (fun T' N' hi' hl'=>zh3 e T' N' _ _ hi' (fun p hp=>zdd hl' (hr p (by simp [hp]))) ho.2) (fun F a b p hp => ?_)
  simp only [rnE,List.mem_cons] at hp
  rcases hp with rfl | hp
  · exact a
  · exact b p hp
theorem zh4 {T T':List (Option Tk)} (hl:Less T T') {k:Nat} {vs:List Value} {cs:List AV} (h:RepB w { G with tk:=T } k vs cs):RepB w { G with tk:=T' } k vs cs:=by
 cases h with
 | box _ h hv hl2 =>
  have h2:RepL w { G with tk:=T' } vs cs:=⟨hl2.1,fun j v cc x y=>zdd hl (hl2.2 j v cc x y)⟩
  exact .box _ _ h hv h2
 | row v τ l cap h0 hv hz hc hm hs hl2 h1=>exact .row _ v τ l cap h0 hv hz hc hm hs hl2 h1
theorem zgo {B0 k:Nat} (cs:List AV) (vs:List Value) (T N:List (Option Tk)) (tk nw:List (Option Nat)) (hi:NI B0 G w tm T N tk nw) (hr:RepB w { G with tk:=T } k vs cs) (ho:okRL m tm lm cs=true) :
 NStep B0 G w tm T N (rnL ks tm tk nw cs).2 fun F=>RepB w (G.cut m lm F) k vs (rnL ks tm tk nw cs).1:=by
 cases hr with
 | box _ h hv hl2 =>
  obtain ⟨T',N',a1,a2,a3,a4⟩:=zef (m:=m) (lm:=lm) cs vs T N tk nw hi hl2 ho
  exact ⟨T',N',a1,a2,a3,fun F hF => .box _ _ (a4 F hF).noRow hv (a4 F hF)⟩
 | row v τ l cap h0 hv hz hc hm hs hl2 h1=>exact ⟨T,N,hi,Less.refl _,⟨[],by simp⟩,fun F _ => .row _ v τ l cap h0 hv hz hc hm hs hl2 h1⟩
theorem zok {ks:List Bool} {tm:Nat} {tk nw:List (Option Nat)} {v:AV} {r T:Nat} (h:(rn1 ks tm tk nw v).1 = .bcell r T):v = .bcell r T:=by
 unfold rn1 at h
 split at h
 · cases h
 · cases hc:(Nat.blt _ tm&&(nth ks _).getD true)<;>rw [hc] at h<;>cases h
 · cases h
 · cases h
 · exact h
theorem zti {ks:List Bool} {tm:Nat} {tk nw:List (Option Nat)} {v:AV} {n:Nat} {τ:Ty} {l:List τ.den} (h:(rn1 ks tm tk nw v).1 = .row n τ l):v = .row n τ l:=by
 unfold rn1 at h
 split at h
 · cases h
 · cases hc:(Nat.blt _ tm&&(nth ks _).getD true)<;>rw [hc] at h<;>cases h
 · cases h
 · cases h
 · exact h
theorem zu9 {ks:List Bool} {tm:Nat} {tk nw:List (Option Nat)} {cs:List AV} {T:Nat} (h:tyOf (rnL ks tm tk nw cs).1=some T):tyOf cs=some T:=by
 cases cs with
 | nil=>exact h
 | cons c cs =>
  simp only [rnL] at h
  unfold tyOf at h
  split at h
  · rename_i r T' q e
    simp only [List.cons.injEq] at e
    rw [zok e.1]
    exact h
  · rename_i n E l q e
    simp only [List.cons.injEq] at e
    rw [zti e.1]
    exact h
  · cases h
theorem zol {s:SV} {v:AV} {r T:Nat} (h:coA s v = .bcell r T):v = .bcell r T:=by
 unfold coA at h
 repeat' split at h
 all_goals first | exact h | cases h
theorem ztj {s:SV} {v:AV} {n:Nat} {τ:Ty} {l:List τ.den} (h:coA s v = .row n τ l):v = .row n τ l:=by
 unfold coA at h
 repeat' split at h
 all_goals first | exact h | cases h
theorem zva {ss:List SV} {cs:List AV} {T:Nat} (h:tyOf (coL ss cs)=some T):tyOf cs=some T:=by
 cases ss with
 | nil=>exact h
 | cons s ss =>
  cases cs with
  | nil=>exact h
  | cons c cs =>
   simp only [coL] at h
   unfold tyOf at h
   split at h
   · rename_i r T' q e
     simp only [List.cons.injEq] at e
     rw [zol e.1]
     exact h
   · rename_i n E l q e
     simp only [List.cons.injEq] at e
     rw [ztj e.1]
     exact h
   · cases h
def RepX (w:World) (G:GS) (r:Nat):Option Obj→List AV→Prop
 | some ob,cs=>RepO w G r ob cs
 | none,cs=>RepB w G r [] cs
theorem zeg {T T':List (Option Tk)} (hl:Less T T') {k:Nat} {o:Option Obj} {cs:List AV} (h:RepX w { G with tk:=T } k o cs):RepX w { G with tk:=T' } k o cs:=by
 cases o with
 | none=>exact zh4 hl h
 | some ob =>
  have h':RepO w { G with tk:=T } k ob cs:=h
  show RepO w { G with tk:=T' } k ob cs
  cases h' with
  | cells vs t _ h1 ht=>exact .cells vs t _ (zh4 hl h1) ht
  | mp es c l hv h1=>exact .mp es c l hv h1
  | fm l c hv=>exact .fm l c hv
theorem zm0 {B0 k:Nat} (cs:List AV) (o:Option Obj) (T N:List (Option Tk)) (tk nw:List (Option Nat)) (hi:NI B0 G w tm T N tk nw) (hr:RepX w { G with tk:=T } k o cs) (ho:okRL m tm lm cs=true) :
 NStep B0 G w tm T N (rnL ks tm tk nw cs).2 fun F=>RepX w (G.cut m lm F) k o (rnL ks tm tk nw cs).1:=by
 cases o with
 | none=>exact zgo cs [] T N tk nw hi hr ho
 | some ob =>
  have hr':RepO w { G with tk:=T } k ob cs:=hr
  cases hr' with
  | cells vs t _ h ht=>exact (zgo cs vs.toList T N tk nw hi h ho).imp fun F hF=>RepO.cells vs t _ hF fun T' hT'=>ht T' (zu9 hT')
  | mp es c l hv h=>exact ⟨T,N,hi,Less.refl _,⟨[],by simp [rnL,rn1]⟩,fun F _=>RepO.mp es c l hv h⟩
  | fm l c hv=>exact ⟨T,N,hi,Less.refl _,⟨[],by simp [rnL,rn1]⟩,fun F _=>RepO.fm l c hv⟩
theorem zh5 {B0:Nat}:∀ (b:List (List AV)) (rows:List (Option Obj)) (k:Nat) (T N:List (Option Tk)) (tk nw:List (Option Nat)),NI B0 G w tm T N tk nw→rows.length=b.length →
 (∀ (i:Nat) (vs:Option Obj) (cs:List AV),rows[i]? = some vs→b[i]? = some cs→RepX w { G with tk:=T } (k+i) vs cs)→okRB m tm lm b=true →
 NStep B0 G w tm T N (rnB ks tm tk nw b).2 fun F=>(rnB ks tm tk nw b).1.length=b.length∧∀ (i:Nat) (vs:Option Obj) (cs:List AV),rows[i]? = some vs→(rnB ks tm tk nw b).1[i]? = some cs→RepX w (G.cut m lm F) (k+i) vs cs
 | [],rows,k,T,N,tk,nw,hi,hl,hr,_=>⟨T,N,hi,Less.refl _,⟨[],by simp⟩,fun F _=>⟨rfl,fun i vs cs _ h=>by simp [rnB] at h⟩⟩
 | c::b,[],k,T,N,tk,nw,hi,hl,hr,_=>by simp at hl
 | c :: b,r::rows,k,T,N,tk,nw,hi,hl,hr,ho=>by
  simp only [okRB,Bool.and_eq_true] at ho
  refine (zm0 (m:=m) (lm:=lm) c r T N tk nw hi (hr 0 r c rfl rfl) ho.1).bind (fun T' N' hi' hl'=>zh5 b rows (k+1) T' N' _ _ hi' (by simpa using hl) (fun i vs cs a d=>by
   have:=zeg hl' (hr (i+1) vs cs (by simpa using a) (by simpa using d))
   rwa [show k+(i+1)=k+1+i from by omega] at this) ho.2) (fun F a b'=>⟨by simp [rnB,b'.1],fun i vs cs x y => ?_⟩)
  simp only [rnB] at y
  cases i with
  | zero =>
   simp at x y
   subst x; subst y
   exact a
  | succ i =>
   have:=b'.2 i vs cs (by simpa using x) (by simpa using y)
   rwa [show k+1+i=k+(i+1) from by omega] at this
theorem zjk {lv:List Nat} {e:Env} {t:Nat} {N:Nat} {tmps:Array Value} {e':Env} {G':GS} (hs:tmps.size=N) (h:∀ p∈e',RepV w G' (tmps.getD p.1 undef) p.2):EnvR w G' N tmps e':=by
 refine ⟨hs,fun t => ?_⟩
 induction e' with
 | nil=>exact .any _
 | cons p e ih =>
  obtain ⟨d,v⟩:=p
  rw [zc9]
  by_cases hd:d=t
  · subst hd
    rw [if_pos rfl]
    exact h (d,v) (by simp)
  · rw [if_neg hd]
    exact ih fun p hp=>h p (by simp [hp])
mutual
theorem zl4 {w:World} {G:GS}:∀ (s:SV) (a:AV) (v:Value),RepV w G v a→RepV w G v (coA s a)
 | .sl τ c,a,v,h=>by
  unfold coA
  split
  · split
    · cases h with | sl _ _ _ _ h _=>exact .sl _ _ _ _ h trivial
    · exact h
  · have h2:RepV w G v (.sl τ [] .full):=zac h (some (.sl τ))
    split
    · cases h2 with | sl _ _ _ _ h _=>exact .sl _ _ _ _ h trivial
    · exact h2
  · exact h
 | .const c,a,v,h=>by
  unfold coA
  split
  · exact .any _
  · exact h
 | .agg vs,a,v,h=>by
  unfold coA
  split
  · rename_i cs
    cases h with
    | agg us _ hl hr =>
     have:=zcw vs cs us.toList ⟨by simpa using hl,fun i v c a b=>hr i v c (by simpa using a) b⟩
     exact .agg _ _ (by simpa using this.1) fun i v c a b=>this.2 i v c (by simpa using a) b
  · exact h
 | .fn f p q,a,v,h=>by
  unfold coA
  split
  · cases h with
    | fn g x y _ _ hx h1 hy h2 =>
     have r1:=zcw p _ x.toList ⟨by simpa using hx,fun i v c a b=>h1 i v c (by simpa using a) b⟩
     have r2:=zcw q _ y.toList ⟨by simpa using hy,fun i v c a b=>h2 i v c (by simpa using a) b⟩
     exact .fn _ _ _ _ _ (by simpa using r1.1) (fun i v c a b=>r1.2 i v c (by simpa using a) b) (by simpa using r2.1) fun i v c a b=>r2.2 i v c (by simpa using a) b
  · exact h
 | .int _,a,v,h=>h
 | .bool,a,v,h=>h
 | .str,a,v,h=>h
 | .err,a,v,h=>h
 | .row _,a,v,h=>h
 | .ms _ _,a,v,h=>h
 | .mp,a,v,h=>h
theorem zcw {w:World} {G:GS}:∀ (ss:List SV) (cs:List AV) (vs:List Value),RepL w G vs cs→RepL w G vs (coL ss cs)
 | [],cs,vs,h=>h
 | s::ss,[],vs,h=>by unfold coL; exact h
 | s::ss,c::cs,[],h=>by have:=h.1; simp at this
 | s::ss,c::cs,v::vs,h=>by
  obtain ⟨h1,h2⟩:=h.tail
  unfold coL
  exact .cons (zl4 s c v h1) (zcw ss cs vs h2)
end
theorem zl5 {w:World} {G:GS} {N:Nat} {tmps:Array Value} {e:Env} (he:EnvR w G N tmps e):∀ (vs:List (Nat×SV)),∀ p∈coE e vs,RepV w G (tmps.getD p.1 undef) p.2
 | [],p,h=>by simp [coE] at h
 | (t,s)::vs,p,h=>by
  simp only [coE,List.mem_cons] at h
  rcases h with rfl | h
  · exact zl4 s _ _ (he.rep t)
  · exact zl5 he vs p h
theorem zhf:∀ (ss:List (List SV)) (b:List (List AV)) (i:Nat) (cs:List AV),(coB ss b)[i]? = some cs→∃ ds,b[i]? = some ds∧(cs=ds∨isRow ds=false∧∃ s,cs=coL s ds)
 | [],b,i,cs,h=>⟨cs,h,.inl rfl⟩
 | s::ss,[],i,cs,h=>by simp [coB] at h
 | s::ss,c::b,0,cs,h=>by
  simp only [coB,List.getElem?_cons_zero,Option.some.injEq] at h
  cases hr:isRow c with
  | true=>rw [hr,cond_true] at h; exact ⟨c,rfl,.inl h.symm⟩
  | false=>rw [hr,cond_false] at h; exact ⟨c,rfl,.inr ⟨hr,s,h.symm⟩⟩
 | s::ss,c::b,i+1,cs,h=>by
  simp only [coB,List.getElem?_cons_succ] at h
  simpa using zhf ss b i cs h
theorem zl6:∀ (ss:List (List SV)) (b:List (List AV)),(coB ss b).length=b.length
 | [],b=>rfl
 | s::ss,[]=>rfl
 | s::ss,c::b=>by simp [coB,zl6 ss b]
theorem zjl {m tm lm:Nat}:∀ {b:List (List AV)} {r:Nat} {cs:List AV},okRB m tm lm b=true→b[r]? = some cs→okRL m tm lm cs=true
 | [],r,cs,_,h=>by simp at h
 | c::b,0,cs,ho,h=>by
  simp only [okRB,Bool.and_eq_true] at ho
  simp at h
  subst h
  exact ho.1
 | c::b,r+1,cs,ho,h=>by
  simp only [okRB,Bool.and_eq_true] at ho
  exact zjl ho.2 (by simpa using h)
theorem zeh {α β:Type} (f:α→β):∀ (k:List Bool) (l:List (Option α)),(maskT k l).map (Option.map f)=maskT k (l.map (Option.map f))
 | [],l=>rfl
 | true::k,[]=>rfl
 | false::k,[]=>rfl
 | true::k,a::l=>by simp only [maskT,List.map_cons,zeh f k l]
 | false::k,a::l=>by simp only [maskT,List.map_cons,zeh f k l,Option.map_none]
theorem zbw {α:Type}:∀ (k:List Bool) (l:List (Option α)) (i:Nat),(maskT k l)[i]? = l[i]? ∨ (maskT k l)[i]? = some none
 | [],l,i => .inl rfl
 | true::k,[],i => .inl rfl
 | false::k,[],i => .inl rfl
 | true::k,a::l,0 => .inl rfl
 | false::k,a::l,0 => .inr rfl
 | true::k,a::l,i+1=>by simpa [maskT] using zbw k l i
 | false::k,a::l,i+1=>by simpa [maskT] using zbw k l i
theorem zlf {B0:Nat} {w0:Wd} {h h':H} (st:St B0 w0 G h w) {N:Nat} {tmps:Array Value} {e1 e':Env} (hs:tmps.size=N) (he:∀ p∈e1,RepV w G (tmps.getD p.1 undef) p.2) {B:Base} {b1:List (List AV)} (hlen1:b1.length=m) (hb1:∀ (r:Nat) (cs:List AV) (ob:Obj) (b:Nat),r<m→b1[r]? = some cs→G.bx[r]? = some (some b)→w.heap[b]? = some ob→RepO w G r ob cs) (hbv':∀ (r:Nat) (cs:List AV),r<m→b1[r]? = some cs→G.bx[r]? = some none→RepN G r cs) (hn:normO ks B e1 b1 m tm lm h=some (e',h')) :
 ∃ G',St B0 w0 G' h' w∧EnvR w G' N tmps e'∧Ext B G G':=by
 unfold normO at hn
 obtain ⟨hc,hn⟩:=zb hn
 simp only [Bool.and_eq_true,nble] at hc
 obtain ⟨⟨⟨⟨⟨⟨⟨q1,q2⟩,q3⟩,q4⟩,q5⟩,q6⟩,o1⟩,o2⟩:=hc
 simp only [Option.some.injEq,Prod.mk.injEq] at hn
 obtain ⟨rfl,rfl⟩:=hn
 have hi0:NI B0 G w tm G.tk [] h.tk []:=⟨st.tkl,rfl,Less.refl _,⟨fun t g hg=>st.tok t g (by simpa using hg),fun t t' g g' h1 h2=>st.tki t t' g g' (by simpa using h1) (by simpa using h2)⟩⟩
 have hE:=zh3 (ks:=ks) (m:=m) (lm:=lm) (tmps:=tmps) e1 G.tk [] h.tk [] hi0 he o1
 have hbv:∀ (r:Nat) (cs:List AV),r<m→b1[r]? = some cs→G.bx[r]? = some none→RepN0 G r cs:=fun r cs hr hc hb=>by
  rcases hbv' r cs hr hc hb with h | ⟨h,_⟩
  · exact h
  · have:=zjl o2 hc
    rw [h] at this
    cases this
 let rows:List (Option Obj):=(G.bx.take m).map fun (b:Option Nat)=>match b with | some b=>w.heap[b]? | none=>none
 have hbxl:=st.bxl
 have hrow:∀ (T:List (Option Tk)),Less G.tk T→∀ (i:Nat) (vs:Option Obj) (cs:List AV),rows[i]? = some vs→b1[i]? = some cs→RepX w { G with tk:=T } i vs cs:=by
  intro T hT i vs cs hv hcs
  simp only [rows,List.getElem?_map] at hv
  obtain ⟨b,hb,rfl⟩:=Option.map_eq_some_iff.1 hv
  have him:i<m:=by
   have:=(List.getElem?_eq_some_iff.1 hb).1
   simp at this
   omega
  rw [List.getElem?_take_of_lt him] at hb
  have hil:i<h.bx.length:=by omega
  cases b with
  | none=>exact zeg (o:=none) hT (T:=G.tk) ((hbv i cs him hcs hb).toB w)
  | some b =>
  obtain ⟨_,ob,hh,_⟩:=st.box i b _ hb (List.getElem?_eq_getElem hil)
  have hr:=hb1 i cs ob b him hcs hb hh
  simp only [hh]
  exact zeg (o:=some ob) hT (T:=G.tk) hr
 obtain ⟨T2,N2,hi2,hl2,_,hF2⟩:=hE.bind (g:=fun F=>(∀ p∈(rnE ks tm h.tk [] e1).1,RepV w (G.cut m lm F) (tmps.getD p.1 undef) p.2)∧_)
  (fun T' N' hi' hl'=>zh5 (m:=m) (lm:=lm) b1 rows 0 T' N' _ _ hi' (by simp [rows,hlen1]; omega) (fun i vs cs x y=>by rw [Nat.zero_add]; exact hrow T' hi'.less i vs cs x y) o2) (fun F a b=>⟨a,b⟩)
 have htl:T2.length=G.tk.length:=hi2.less.1
 have htk:G.tk.length=h.tk.length:=by rw [st.tkl]; simp
 let L:List (Option Tk):=T2.take tm++N2
 let F:List (Option Tk):=maskT ks L
 have hlow:∀ i:Nat,i<tm→L[i]? = T2[i]?:=fun i hi=>by
  simp only [L]
  rw [List.getElem?_append_left (by simp; omega),List.getElem?_take_of_lt hi]
 have hhigh:∀ p:Nat,L[tm+p]? = N2[p]?:=fun p=>by
  simp only [L]
  rw [List.getElem?_append_right (by simp; omega)]
  congr 1
  simp
  omega
 have hfit:Fits T2 tm N2 F:=⟨fun i hi=>by have:=zbw ks L i; rwa [hlow i hi] at this,fun p _=>by have:=zbw ks L (tm+p); rwa [hhigh p] at this⟩
 obtain ⟨g1,g2,g3⟩:=hF2 F hfit
 have hplace:∀ (t:Nat) (g:Tk),F[t]? = some (some g)→(T2++N2)[if t<tm then t else T2.length+(t - tm)]? = some (some g):=by
  intro t g ht
  replace ht:L[t]? = some (some g):=by
   rcases zbw ks L t with e | e
   · exact e.symm.trans ht
   · have:=e.symm.trans ht; cases this
  by_cases htm:t<tm
  · rw [if_pos htm,List.getElem?_append_left (by omega),← hlow t htm]; exact ht
  · rw [if_neg htm,List.getElem?_append_right (by omega)]
    rw [show t=tm+(t - tm) from by omega,hhigh] at ht
    rw [show T2.length+(t - tm) - T2.length=t - tm from by omega]
    exact ht
 refine ⟨G.cut m lm F,?_,zjk (lv:=[]) (e:=[]) (t:=0) hs g1,?_⟩
 · exact
   { below:=st.below
     b0:=st.b0
     bxl:=by simp only [GS.cut]; rw [g2,hlen1]; simp; omega
     box := fun r b cs h1 h2=>by
      have hrm:r<m:=by
       have:=(List.getElem?_eq_some_iff.1 h1).1
       simp [GS.cut] at this
       omega
      simp only [GS.cut] at h1
      have h1':=h1
      rw [List.getElem?_take_of_lt hrm] at h1
      have hrl:r<h.bx.length:=by rw [hbxl]; exact (List.getElem?_eq_some_iff.1 h1).1
      obtain ⟨hB,ob,hh,_⟩:=st.box r b _ h1 (List.getElem?_eq_getElem hrl)
      have g4:=g3 r (some ob) cs (by simp only [rows,List.getElem?_map,h1',Option.map_some,hh]) h2
      rw [Nat.zero_add] at g4
      exact ⟨hB,ob,hh,g4⟩
     virt:=fun r cs h1 h2=>by
      have hrm:r<m:=by
       have:=(List.getElem?_eq_some_iff.1 h1).1
       simp [GS.cut] at this
       omega
      simp only [GS.cut] at h1
      have h1':=h1
      rw [List.getElem?_take_of_lt hrm] at h1
      have g4:RepB w (G.cut m lm F) (0+r) [] cs:=g3 r none cs (by simp only [rows,List.getElem?_map,h1',Option.map_some]) h2
      rw [Nat.zero_add] at g4
      have hbr:r<b1.length:=by omega
      obtain ⟨v,_,_,h0,_,hv⟩:=hbv r b1[r] hrm (by simp) h1
      exact .inl (g4.toN (by show 0<(G.bv r).v; rw [hv]; exact h0))
     inj := fun r r' b h1 h2=>by
      simp only [GS.cut] at h1 h2
      have e1:r<m:=by
       have:=(List.getElem?_eq_some_iff.1 h1).1
       simp at this
       omega
      have e2:r'<m:=by
       have:=(List.getElem?_eq_some_iff.1 h2).1
       simp at this
       omega
      rw [List.getElem?_take_of_lt e1] at h1
      rw [List.getElem?_take_of_lt e2] at h2
      exact st.inj r r' b h1 h2
     dat:=fun b o x=>⟨(st.dat b o x).1,fun hm=>(st.dat b o x).2 (List.mem_of_mem_take hm)⟩
     dat0:=st.dat0
     tkl:=by
      simp only [GS.cut,F,L]
      rw [zeh,List.map_append,List.map_take,← hi2.hT,← hi2.hN,zbc tm]
     tok:=fun t g ht=>by
      obtain ⟨h1,h2⟩:=hi2.tok.tok _ g (hplace t g ht)
      refine ⟨h1,fun hlt => ?_⟩
      obtain ⟨b,hA,hB,hnb,rest⟩:=h2 hlt
      exact ⟨b,hA,hB,fun hm=>hnb (List.mem_of_mem_take hm),rest⟩
     tki:=fun t t' g g' h1 h2 hne=>by
      refine hi2.tok.tki _ _ g g' (hplace t g h1) (hplace t' g' h2) ?_
      have l1:=(List.getElem?_eq_some_iff.1 h1).1
      have l2:=(List.getElem?_eq_some_iff.1 h2).1
      split<;>split<;>omega
     lpl:=by simp only [GS.cut,zbc]; simp [st.lpl]
     loop:=fun j p s h1 h2=>by
      simp only [GS.cut] at h1
      simp only [zbc] at h2
      have e1:j<lm:=by
       have:=(List.getElem?_eq_some_iff.1 h1).1
       simp at this
       omega
      rw [List.getElem?_take_of_lt e1] at h1 h2
      exact st.loop j p s h1 h2
     lpi := fun j j' p p' h1 h2=>by
      simp only [GS.cut] at h1 h2
      have e1:j<lm:=by
       have:=(List.getElem?_eq_some_iff.1 h1).1
       simp at this
       omega
      have e2:j'<lm:=by
       have:=(List.getElem?_eq_some_iff.1 h2).1
       simp at this
       omega
      rw [List.getElem?_take_of_lt e1] at h1
      rw [List.getElem?_take_of_lt e2] at h2
      exact st.lpi j j' p p' h1 h2
     dfr:=st.dfr
     dfn:=st.dfn }
 · exact
   { D := fun _ _ x=>x
     bx:=fun r hr => .inl ⟨by simp only [GS.cut]; rw [List.getElem?_take_of_lt (by omega)],rfl⟩
     tk:=fun t ht=>by
      have ht':t<tm:=by omega
      have e0:G.tk[t]? = some (G.tk[t]'(by omega)):=List.getElem?_eq_getElem (by omega)
      have:F[t]? = G.tk[t]? ∨ F[t]? = some none:=by
       rcases hfit.1 t ht' with e | e
       · rw [e]; exact hi2.less.2 t
       · exact .inr e
      rcases this with e | e
      · exact ⟨_,_,e0,e.trans e0,.inr (.inl rfl)⟩
      · exact ⟨_,none,e0,e,.inl rfl⟩
     lp:=fun j hj=>by simp only [GS.cut]; rw [List.getElem?_take_of_lt (by omega)]
     df:=rfl }
end
end Go.AM
set_option linter.unusedVariables false
set_option linter.unusedSimpArgs false
namespace Go.AM
section
variable {X:Type} {cx:Cx X} {O:Open X} {Y:Ys}
theorem zgp {tab:Nat→Option TI} {fs:List (Nat×Nat)} {e e':Env}:∀ (ps:List (Nat×Operand)) (cs:List AV),(∀ p∈ps,ev e p.2=ev e' p.2)→buildS tab fs e ps cs=buildS tab fs e' ps cs
 | [],cs,_=>rfl
 | (i,x)::r,cs,h=>by
  have ih:=fun cs=>zgp (tab:=tab) (fs:=fs) r cs (fun p hp=>h p (by simp [hp]))
  simp only [buildS,h (i,x) (by simp),ih]
theorem zgq {ti:TI} {e e':Env}:∀ (ps:List (Nat×Operand)) (cs:List AV),(∀ p∈ps,ev e p.2=ev e' p.2)→buildA ti e ps cs=buildA ti e' ps cs
 | [],cs,_=>rfl
 | (i,x)::r,cs,h=>by
  have ih:=fun cs=>zgq (ti:=ti) r cs (fun p hp=>h p (by simp [hp]))
  simp only [buildA,h (i,x) (by simp),ih]
theorem zcq {τ:Ty} {e e':Env}:∀ (n:Nat) (ps:List (Nat×Operand)),(∀ p∈ps,ev e p.2=ev e' p.2)→buildSl τ e n ps=buildSl τ e' n ps
 | _,[],_=>rfl
 | n,(i,x)::r,h=>by
  have ih:=fun n=>zcq (τ:=τ) n r (fun p hp=>h p (by simp [hp]))
  simp only [buildSl,h (i,x) (by simp),ih]
theorem zfh {ti:TI} {e e':Env}:∀ (n:Nat) (ps:List (Nat×Operand)),(∀ p∈ps,ev e p.2=ev e' p.2)→buildIm ti e n ps=buildIm ti e' n ps
 | _,[],_=>rfl
 | n,(i,x)::r,h=>by
  have ih:=fun n=>zfh (ti:=ti) n r (fun p hp=>h p (by simp [hp]))
  simp only [buildIm,h (i,x) (by simp),ih]
theorem zcx {e e':Env}:∀ (ts:List Nat) (xs:List Operand),(∀ x∈xs,ev e x=ev e' x)→evs cx e ts xs=evs cx e' ts xs
 | _,[],_=>rfl
 | [],x::xs,h=>by
  have ih:=zcx [] xs (fun y hy=>h y (by simp [hy]))
  simp only [evs,h x (by simp),ih]
 | t::ts,x::xs,h=>by
  have ih:=zcx ts xs (fun y hy=>h y (by simp [hy]))
  simp only [evs,h x (by simp),ih]
theorem ztk {e e':Env} {hh:H} {k:AV→H→Option X} (o:Oper) (h:∀ x∈o.op.operands,ev e x=ev e' x):opA cx O Y o e hh k=opA cx O Y o e' hh k:=by
 unfold opA
 cases hop:o.op with
 | move x=>rw [hop] at h; simp only [Op.operands] at h; simp only [h x (by simp)]
 | assign x=>rw [hop] at h; simp only [Op.operands] at h; simp only [h x (by simp)]
 | pick c a b=>rw [hop] at h; simp only [Op.operands] at h; simp only [h c (by simp),h a (by simp),h b (by simp)]
 | alloc t=>rfl
 | box t x=>rw [hop] at h; simp only [Op.operands] at h; simp only [h x (by simp)]
 | build t ps =>
  rw [hop] at h
  simp only [Op.operands,List.mem_toArray,List.mem_map] at h
  have h1:∀ p∈ps.toList,ev e p.2=ev e' p.2:=fun p hp=>h _ ⟨p,hp,rfl⟩
  simp only [zgp _ _ h1,zgq _ _ h1]
 | buildSlice t n ps =>
  rw [hop] at h
  simp only [Op.operands,List.mem_toArray,List.mem_map] at h
  have h1:∀ p∈ps.toList,ev e p.2=ev e' p.2:=fun p hp=>h _ ⟨p,hp,rfl⟩
  simp only [zcq _ _ h1,zfh _ _ h1]
 | load t x=>rw [hop] at h; simp only [Op.operands] at h; simp only [h x (by simp)]
 | store t a v=>rw [hop] at h; simp only [Op.operands] at h; simp only [h a (by simp),h v (by simp)]
 | nilCheck x=>rw [hop] at h; simp only [Op.operands] at h; simp only [h x (by simp)]
 | binOp op t a v yt=>rw [hop] at h; simp only [Op.operands] at h; simp only [h a (by simp),h v (by simp)]
 | unOp op t x=>rw [hop] at h; simp only [Op.operands] at h; simp only [h x (by simp)]
 | convert s d x=>rw [hop] at h; simp only [Op.operands] at h; simp only [h x (by simp)]
 | makeSlice t l c=>rw [hop] at h; simp only [Op.operands] at h; simp only [h l (by simp),h c (by simp)]
 | lookup t m x b=>rw [hop] at h; simp only [Op.operands] at h; cases b<;>first | rfl | simp only [h m (by simp),h x (by simp)]
 | makeFunc f first cap =>
  rw [hop] at h
  simp only [Op.operands] at h
  have h1:first.toList.map (ev e)=first.toList.map (ev e'):=List.map_congr_left fun x hx=>h x (by simp at hx ⊢; exact .inl hx)
  have h2:cap.toList.map (ev e)=cap.toList.map (ev e'):=List.map_congr_left fun x hx=>h x (by simp at hx ⊢; exact .inr hx)
  cases f with
  | func f=>simp only [h1,h2]
  | _=>rfl
 | slice t x lo hi mx =>
  rw [hop] at h
  simp only [Op.operands] at h
  have ho:∀ (q:Option Operand),(∀ y∈q.toArray,ev e y=ev e' y)→q.map (ev e)=q.map (ev e'):=fun q hq=>by
   cases q with
   | none=>rfl
   | some y=>simp [hq y (by simp)]
  have h1:=ho lo (fun y hy=>h y (by simp at hy ⊢; simp [hy]))
  have h2:=ho hi (fun y hy=>h y (by simp at hy ⊢; simp [hy]))
  have h3:=ho mx (fun y hy=>h y (by simp at hy ⊢; simp [hy]))
  simp only [h x (by simp),h1,h2,h3]
 | fieldAddr t x f=>rw [hop] at h; simp only [Op.operands] at h; simp only [h x (by simp)]
 | field t x f=>rw [hop] at h; simp only [Op.operands] at h; simp only [h x (by simp)]
 | indexAddr t a v=>rw [hop] at h; simp only [Op.operands] at h; simp only [h a (by simp),h v (by simp)]
 | index t a v=>rw [hop] at h; simp only [Op.operands] at h; simp only [h a (by simp),h v (by simp)]
 | extract t i=>rw [hop] at h; simp only [Op.operands] at h; simp only [h t (by simp)]
 | call c =>
  rw [hop] at h
  simp only [Op.operands,Call.operands] at h
  cases hc:c.callee with
  | builtin b =>
   rw [hc] at h
   simp only at h
   simp only [hc]
   rw [zcx _ _ fun x hx=>h x (by simp at hx ⊢; exact hx)]
  | value f =>
   rw [hc] at h
   simp only at h
   simp only [hc]
   rw [zcx _ _ fun x hx=>h x (by simp at hx ⊢; exact .inr hx),h f (by simp)]
  | invoke r n=>simp only [hc]
 | _=>rfl
theorem zfi {e e':Env} (o:Oper) (h:∀ x∈o.op.operands,ev e x=ev e' x):isRowOp cx o e=isRowOp cx o e':=by
 unfold isRowOp
 cases hop:o.op with
 | move x=>rw [hop] at h; simp only [Op.operands] at h; simp only [h x (by simp)]
 | assign x=>rw [hop] at h; simp only [Op.operands] at h; simp only [h x (by simp)]
 | load t x=>rw [hop] at h; simp only [Op.operands] at h; simp only [h x (by simp)]
 | store t a v=>rw [hop] at h; simp only [Op.operands] at h; simp only [h a (by simp),h v (by simp)]
 | fieldAddr t x f=>rw [hop] at h; simp only [Op.operands] at h; simp only [h x (by simp)]
 | indexAddr t a v=>rw [hop] at h; simp only [Op.operands] at h; simp only [h a (by simp)]
 | slice t x lo hi mx=>rw [hop] at h; simp only [Op.operands] at h; simp only [h x (by simp)]
 | convert s d x=>rw [hop] at h; simp only [Op.operands] at h; simp only [h x (by simp)]
 | call c =>
  rw [hop] at h
  simp only [Op.operands,Call.operands] at h
  cases hc:c.callee with
  | builtin b =>
   rw [hc] at h
   simp only at h
   simp only [hc]
   have key:(match c.args.toList with | x::_=>isMs (ev e x) | []=>false)=(match c.args.toList with | x::_=>isMs (ev e' x) | []=>false):=by
    cases ha:c.args.toList with
    | nil=>rfl
    | cons x xs =>
     have hm:x∈c.args.toList:=by rw [ha]; simp
     simp only [h x (by simp at hm ⊢; exact hm)]
   have key2:(match c.args.toList with | [s,x]=>isMs (ev e s)||isMs (ev e x) | _=>false)=(match c.args.toList with | [s,x]=>isMs (ev e' s)||isMs (ev e' x) | _=>false):=by
    have hm:∀ x∈c.args.toList,ev e x=ev e' x:=fun x hx=>h x (by simp at hx ⊢; exact hx)
    generalize c.args.toList=xs at hm
    rcases xs with _ | ⟨x,_ | ⟨y,_ | ⟨z,xs⟩⟩⟩<;>first | rfl | simp only [hm x (by simp),hm y (by simp)]
   cases b<;>first | rfl | exact key | exact key2
  | _=>simp only [hc]
 | _=>rfl
theorem zm1 {e e':Env} (o:Oper) (h:∀ x∈o.op.operands,ev e x=ev e' x):softOp o e=softOp o e':=by
 unfold softOp
 cases hop:o.op with
 | store t a v=>rw [hop] at h; simp only [Op.operands] at h; simp only [h v (by simp)]
 | _=>rfl
theorem ztl {e e':Env} {hh:H} {k:AV→H→Option X} (o:Oper) (h:∀ x∈o.op.operands,ev e x=ev e' x):opR cx o e hh k=opR cx o e' hh k:=by
 unfold opR
 cases hop:o.op with
 | lookup t m x b=>rw [hop] at h; simp only [Op.operands] at h; cases b<;>first | rfl | simp only [h m (by simp),h x (by simp)]
 | mapUpdate t m x y=>rw [hop] at h; simp only [Op.operands] at h; simp only [h m (by simp),h x (by simp),h y (by simp)]
 | makeMap t b=>cases b<;>rfl
 | buildSlice t n ps =>
  rw [hop] at h
  simp only [Op.operands,List.mem_toArray,List.mem_map] at h
  have h1:∀ p∈ps.toList,ev e p.2=ev e' p.2:=fun p hp=>h _ ⟨p,hp,rfl⟩
  simp only [zcq _ _ h1]
 | load t x=>rw [hop] at h; simp only [Op.operands] at h; simp only [h x (by simp)]
 | store t a v=>rw [hop] at h; simp only [Op.operands] at h; simp only [h a (by simp),h v (by simp)]
 | fieldAddr t x f=>rw [hop] at h; simp only [Op.operands] at h; simp only [h x (by simp)]
 | indexAddr t a v=>rw [hop] at h; simp only [Op.operands] at h; simp only [h a (by simp),h v (by simp)]
 | slice t x lo hi mx =>
  rw [hop] at h
  simp only [Op.operands] at h
  have ho:∀ (q:Option Operand),(∀ y∈q.toArray,ev e y=ev e' y)→q.map (ev e)=q.map (ev e'):=fun q hq=>by
   cases q with
   | none=>rfl
   | some y=>simp [hq y (by simp)]
  have h1:=ho lo (fun y hy=>h y (by simp at hy ⊢; simp [hy]))
  have h2:=ho hi (fun y hy=>h y (by simp at hy ⊢; simp [hy]))
  have h3:=ho mx (fun y hy=>h y (by simp at hy ⊢; simp [hy]))
  simp only [h x (by simp),h1,h2,h3]
 | convert s d x=>rw [hop] at h; simp only [Op.operands] at h; simp only [h x (by simp)]
 | call c =>
  rw [hop] at h
  simp only [Op.operands,Call.operands] at h
  cases hc:c.callee with
  | builtin b =>
   rw [hc] at h
   simp only at h
   simp only [hc]
   have hm:∀ x∈c.args.toList,ev e x=ev e' x:=fun x hx=>h x (by simp at hx ⊢; exact hx)
   generalize c.args.toList=xs at hm
   generalize c.argTypes.toList=ts
   cases b<;>try rfl
   all_goals
    rcases xs with _ | ⟨x,_ | ⟨y,_ | ⟨z,xs⟩⟩⟩<;>rcases ts with _ | ⟨t,_ | ⟨u,_ | ⟨q,ts⟩⟩⟩<;>first | rfl | (simp only [hm x (by simp)]; done) | (simp only [hm x (by simp),hm y (by simp)]; done) | (simp only [evs,hm x (by simp),hm y (by simp)]; done)
  | _=>simp only [hc]
 | _=>rfl
theorem zhg {e e':Env} {hh:H} {k:AV→H→Option X} (o:Oper) (h:∀ x∈o.op.operands,ev e x=ev e' x):opX cx O Y o e hh k=opX cx O Y o e' hh k:=by
 unfold opX
 rw [zfi o h,ztl o h,ztk o h]
theorem zqx {e e':Env} {f:AV} {xs:List Operand} (h:∀ x∈xs,ev e x=ev e' x):accC f xs e=accC f xs e':=by
 unfold accC
 cases f with
 | fn g a b =>
  cases a with
  | cons _ _=>rfl
  | nil =>
   cases b with
   | cons _ _=>rfl
   | nil =>
    cases xs with
    | nil=>rfl
    | cons x xs=>simp only [h x (by simp)]
 | _=>rfl
theorem zei {e e':Env} {p:Nat} (o:Oper) (h:∀ x∈o.op.operands,ev e x=ev e' x):accOf p o e=accOf p o e':=by
 unfold accOf
 cases hop:o.op with
 | lookup t m x b=>rw [hop] at h; simp only [Op.operands] at h; simp only [h m (by simp)]
 | mapUpdate t m x y=>rw [hop] at h; simp only [Op.operands] at h; simp only [h m (by simp)]
 | load t x=>rw [hop] at h; simp only [Op.operands] at h; simp only [h x (by simp)]
 | store t a v=>rw [hop] at h; simp only [Op.operands] at h; simp only [h a (by simp)]
 | call c =>
  rw [hop] at h
  simp only [Op.operands,Call.operands] at h
  cases hc:c.callee with
  | value f =>
   rw [hc] at h
   simp only at h
   simp only [hc]
   rw [h f (by simp)]
   exact zqx fun x hx=>h x (by simp at hx ⊢; exact .inr hx)
  | _=>simp only [hc]
 | _=>rfl
theorem ze6 {e e':Env} {hh:H} {p:Nat} {k:AV→H→Option X} (o:Oper) (h:∀ x∈o.op.operands,ev e x=ev e' x):opP cx p O Y o e hh k=opP cx p O Y o e' hh k:=by
 have h0:=zhg (cx:=cx) (O:=O) (Y:=Y) (hh:=hh) (k:=k) o h
 unfold opP
 cases hop:o.op with
 | alloc t=>rfl
 | box t x=>rw [hop] at h; simp only [Op.operands] at h; simp only [h x (by simp)]
 | _=>exact h0
theorem zhh {e e':Env} (o:Oper) (h:∀ x∈o.op.operands,ev e x=ev e' x):closedCall cx o e=closedCall cx o e':=by
 unfold closedCall
 cases hop:o.op with
 | binOp op t a v yt=>rw [hop] at h; simp only [Op.operands] at h; simp only [h a (by simp),h v (by simp)]
 | call c =>
  rw [hop] at h
  simp only [Op.operands,Call.operands] at h
  cases hc:c.callee with
  | value f =>
   rw [hc] at h
   simp only at h
   simp only [hc]
   rw [h f (by simp),zcx c.argTypes.toList c.args.toList (fun x hx=>h x (by simp at hx ⊢; exact .inr hx))]
  | _=>simp only [hc]
 | _=>rfl
theorem zcr {e e':Env} (o:Oper) (h:∀ x∈o.op.operands,ev e x=ev e' x):closedX cx o e=closedX cx o e':=by
 unfold closedX
 rw [zfi o h,zm1 o h,zhh o h]
inductive Fx where
 | no | rd (q:Nat) (c:List AV) | wr (q:Nat) (c c':List AV) | tk (t t':List (Option Nat))
def Fx.ok:Fx→H→Prop
 | .no,_=>True
 | .rd q c,h=>h.bx[q]? = some c
 | .wr q c _,h=>h.bx[q]? = some c
 | .tk t _,h=>h.tk=t
def Fx.go:Fx→H→H
 | .no,h=>h
 | .rd _ _,h=>h
 | .wr q _ c',h=>{ h with bx:=h.bx.set q c' }
 | .tk _ t',h=>{ h with tk:=t' }
def kindD (tab:Nat→Option TI) (o:Oper):Nat:=match o.op with
 | .load _ _=>1
 | .lookup _ _ _ _=>1
 | .store _ _ _=>2
 | .mapUpdate _ _ _ _=>2
 | .alloc _=>3
 | .box _ _=>3
 | .convert _ d _=>match tab d with
  | some { d:=.slice _,.. }=>4
  | _=>0
 | .makeSlice _ _ _=>4
 | .call c=>match c.callee with
  | .builtin .append=>4
  | .builtin _=>0
  | _=>bif rdK tab c.argTypes.toList then 5 else 4
 | _=>0
def Fx.fits (tab:Nat→Option TI) (o:Oper) (acc:Option Nat):Fx→Prop
 | .no=>True
 | .rd q _=>acc=some q∧(kindD tab o=1∨kindD tab o=5)
 | .wr q _ _=>acc=some q∧(kindD tab o=2∨kindD tab o=3)
 | .tk _ _=>kindD tab o=4∨kindD tab o=5
def DoesA (cx:Cx X) (p:Nat) (O:Open X) (Y:Ys) (o:Oper) (e:Env) (h:H) (k:AV→H→Option X) (r:X):Prop:=
 ∃ (v:AV) (f:Fx),f.ok h∧k v (f.go h)=some r∧(∀ (h2:H) (k2:AV→H→Option X),f.ok h2→opA cx O Y o e h2 k2=k2 v (f.go h2))∧f.fits cx.tab o (accOf p o e)
def DoesX (cx:Cx X) (p:Nat) (O:Open X) (Y:Ys) (o:Oper) (e:Env) (h:H) (k:AV→H→Option X) (r:X):Prop:=
 ∃ (v:AV) (f:Fx),f.ok h∧k v (f.go h)=some r∧(∀ (h2:H) (k2:AV→H→Option X),f.ok h2→opX cx O Y o e h2 k2=k2 v (f.go h2))∧f.fits cx.tab o (accOf p o e)
def Does (cx:Cx X) (p:Nat) (O:Open X) (Y:Ys) (o:Oper) (e:Env) (h:H) (k:AV→H→Option X) (r:X):Prop:=
 ∃ (v:AV) (f:Fx),f.ok h∧k v (f.go h)=some r∧(∀ (h2:H) (k2:AV→H→Option X),f.ok h2→opP cx p O Y o e h2 k2=k2 v (f.go h2))∧f.fits cx.tab o (accOf p o e)
end
end Go.AM
set_option linter.unusedVariables false
set_option linter.unusedSimpArgs false
namespace Go.AM
section
variable {X:Type}
theorem zqy {d:TD} {op:BinOp} {x y:AV} {k:AV→Option X} {r:X} (hk:binA d op x y k=some r):∃ v,k v=some r∧∀ k2:AV→Option X,binA d op x y k2=k2 v:=by
 unfold binA at hk
 split at hk
 · split at hk
   · rename_i b hb
     exact ⟨_,hk,fun k2=>by unfold binA; simp only [hb]⟩
   · cases hk
 · split at hk
   · rename_i b hb
     exact ⟨_,hk,fun k2=>by unfold binA; simp only [hb]⟩
   · cases hk
 · cases hc:decide ((_:Int)<0) with
   | true=>rw [hc] at hk; cases hk
   | false=>rw [hc] at hk; exact ⟨_,hk,fun k2=>by unfold binA; simp only [hc,cond_false]⟩
 · cases hc:decide ((_:Int)<0) with
   | true=>rw [hc] at hk; cases hk
   | false=>rw [hc] at hk; exact ⟨_,hk,fun k2=>by unfold binA; simp only [hc,cond_false]⟩
 · rename_i n1 n2 n3 n4
   split at hk
   · rename_i hq
     subst hq
     cases op with
     | eql=>exact (n1 rfl).elim
     | neq=>exact (n2 rfl).elim
     | shl=>simp at hk
     | shr=>simp at hk
     | quo =>
      simp only at hk
      cases hc:(_:Int)==0 with
      | true=>rw [hc] at hk; cases hk
      | false=>rw [hc] at hk; exact ⟨_,hk,fun k2=>by unfold binA; simp only [hc,cond_false,if_true]⟩
     | rem =>
      simp only at hk
      cases hc:(_:Int)==0 with
      | true=>rw [hc] at hk; cases hk
      | false=>rw [hc] at hk; exact ⟨_,hk,fun k2=>by unfold binA; simp only [hc,cond_false,if_true]⟩
     | _=>exact ⟨_,hk,fun k2=>by unfold binA; simp only [if_true]⟩
   · cases hk
 · have h1:=(zb hk).1
   exact ⟨_,(zb hk).2,fun k2=>by unfold binA; simp only [h1,cond_true]⟩
 · exact ⟨_,hk,fun k2=>rfl⟩
 · exact ⟨_,hk,fun k2=>rfl⟩
 · exact ⟨_,hk,fun k2=>rfl⟩
 · exact ⟨_,hk,fun k2=>rfl⟩
 · cases hk
theorem ztm {op:UnOp} {x:AV} {k:AV→Option X} {r:X} (hk:unA op x k=some r):∃ v,k v=some r∧∀ k2:AV→Option X,unA op x k2=k2 v:=by
 unfold unA at hk
 split at hk
 · exact ⟨_,hk,fun k2=>rfl⟩
 · exact ⟨_,hk,fun k2=>rfl⟩
 · exact ⟨_,hk,fun k2=>rfl⟩
 · cases hk
theorem zjm {sz:Nat} {i:Int} {k:AV→Option X} {q:X}:∀ (n:Nat) (j:Int) (r o:Nat),aref sz i n j r o k=some q→∃ v,k v=some q∧∀ k2:AV→Option X,aref sz i n j r o k2=k2 v
 | 0,j,r,o,hk=>by cases hk
 | n + 1,j,r,o,hk=>by
  simp only [aref] at hk
  cases hc:(i==j) with
  | true=>rw [hc] at hk; exact ⟨_,hk,fun k2=>by simp only [aref,hc,cond_true]⟩
  | false =>
   rw [hc] at hk
   obtain ⟨v,h1,h2⟩:=zjm n _ _ _ hk
   exact ⟨v,h1,fun k2=>by simp only [aref,hc,cond_false]; exact h2 k2⟩
theorem zjn {sz:Nat} {i:Int} {k:AV→Option X} {q:X}:∀ (n:Nat) (j:Int) (cs:List AV),aimm sz i n j cs k=some q→∃ v,k v=some q∧∀ k2:AV→Option X,aimm sz i n j cs k2=k2 v
 | 0,j,cs,hk=>by cases hk
 | n + 1,j,cs,hk=>by
  simp only [aimm] at hk
  cases hc:(i==j) with
  | true=>rw [hc] at hk; exact ⟨_,hk,fun k2=>by simp only [aimm,hc,cond_true]⟩
  | false =>
   rw [hc] at hk
   obtain ⟨v,h1,h2⟩:=zjn n _ _ hk
   exact ⟨v,h1,fun k2=>by simp only [aimm,hc,cond_false]; exact h2 k2⟩
theorem zjo {agg:Bool} {sz:Nat} {i:Int} {k:AV→Option X} {r:X}:∀ (n:Nat) (j:Int) (cs:List AV),aidx agg sz i n j cs k=some r→∃ v,k v=some r∧∀ k2:AV→Option X,aidx agg sz i n j cs k2=k2 v
 | 0,j,cs,hk=>by simp [aidx] at hk
 | n + 1,j,cs,hk=>by
  simp only [aidx] at hk
  cases hc:i==j with
  | true =>
   rw [hc] at hk
   simp only [cond_true] at hk
   split at hk
   · rename_i c hcs
     split at hk
     · rename_i v hv
       exact ⟨v,hk,fun k2=>by simp only [aidx,hc,cond_true,hcs,hv]⟩
     · cases hk
   · cases hk
  | false =>
   rw [hc] at hk
   obtain ⟨v,h1,h2⟩:=zjo n _ _ hk
   exact ⟨v,h1,fun k2=>by simp only [aidx,hc,cond_false]; exact h2 k2⟩
theorem zm2 {cx:Cx X} {d:TD} {x:AV} {lo hi mx:Option AV} {k:AV→Option X} {r:X} (hk:sliceA cx d x lo hi mx k=some r):∃ v,k v=some r∧∀ k2:AV→Option X,sliceA cx d x lo hi mx k2=k2 v:=by
 unfold sliceA at hk
 split at hk
 · rename_i l h m hl hh hm
   split at hk
   · split at hk
     · rename_i s _
       cases hs:sub s (l.getD 0) (h.getD s.length) with
       | none=>rw [hs] at hk; cases hk
       | some q=>rw [hs] at hk; exact ⟨_,hk,fun k2=>by unfold sliceA; simp only [hl,hh,hm,hs,Option.bind_some]⟩
     · cases hk
   · rename_i et τ s c
     split at hk
     · rename_i ei hei
       have h1:=(zb hk).1
       have h2:=(zb hk).2
       split at h2
       · cases hs:sub s (l.getD 0) (h.getD s.length) with
         | none=>rw [hs] at h2; cases h2
         | some q=>rw [hs] at h2; exact ⟨_,h2,fun k2=>by unfold sliceA; simp only [hl,hh,hm,hs,Option.bind_some,hei,h1,cond_true]⟩
       · split at h2
         · rename_i hi'
           have h3:=(zb h2).1
           have h4:=(zb h2).2
           cases hs:sub s (l.getD 0) hi' with
           | none=>rw [hs] at h4; cases h4
           | some q=>rw [hs] at h4; exact ⟨_,h4,fun k2=>by unfold sliceA; simp only [hl,hh,hm,hs,Option.bind_some,hei,h1,h3,cond_true]⟩
         · cases h2
     · cases hk
   · cases hk
 · cases hk
theorem zjp {τ:Ty} {l m:List τ.den} {c:Cap} {bytes:Nat} {h:H} {k:AV→H→Option X} {r:X} (hk:grow τ l m c bytes h k=some r):∃ v tk',k v { h with tk:=tk' }=some r∧∀ (h2:H) (k2:AV→H→Option X),h2.tk=h.tk→grow τ l m c bytes h2 k2=k2 v { h2 with tk:=tk' }:=by
 unfold grow at hk
 have h1:=(zb hk).1
 have h2:=(zb hk).2
 split at h2
 · exact ⟨_,_,h2,fun h2' k2 e=>by unfold grow; simp only [h1,cond_true,e]⟩
 · split at h2
   · rename_i n hn
     have h3:=(zb h2).1
     have h4:=(zb h2).2
     exact ⟨_,_,h4,fun h2' k2 e=>by unfold grow; simp only [h1,cond_true,e,hn,h3]⟩
   · cases h2
 · cases h2
theorem zfj {cx:Cx X} {t:Nat} {s x:AV} {h:H} {k:AV→H→Option X} {r:X} (hk:appendA cx t s x h k=some r):∃ v tk',k v { h with tk:=tk' }=some r∧∀ (h2:H) (k2:AV→H→Option X),h2.tk=h.tk→appendA cx t s x h2 k2=k2 v { h2 with tk:=tk' }:=by
 unfold appendA at hk
 split at hk
 · rename_i _ _ _ _ _ _ _ ht
   split at hk
   · rename_i ti hti
     split at hk
     · rename_i τ l c τ' m c' e1 e2
       split at hk
       · rename_i m' hm
         have h1:=(zb hk).1
         obtain ⟨v,tk',g1,g2⟩:=zjp (zb hk).2
         exact ⟨v,tk',g1,fun h2 k2 e=>by unfold appendA; simp only [ht,hti,e1,e2,hm,h1,cond_true]; exact g2 h2 k2 e⟩
       · cases hk
     · rename_i l c m e1 e2
       have h1:=(zb hk).1
       obtain ⟨v,tk',g1,g2⟩:=zjp (zb hk).2
       exact ⟨v,tk',g1,fun h2 k2 e=>by unfold appendA; simp only [ht,hti,e1,e2,h1,cond_true]; exact g2 h2 k2 e⟩
     · cases hk
   · cases hk
 · cases hk
theorem zjq {cx:Cx X} {b:Builtin} {ts:List Nat} {args:List AV} {h:H} {k:AV→H→Option X} {r:X} (hk:builtinA cx b ts args h k=some r) :
 (∃ v,k v h=some r∧∀ (h2:H) (k2:AV→H→Option X),builtinA cx b ts args h2 k2=k2 v h2) ∨
 (b = .append∧∃ v tk',k v { h with tk:=tk' }=some r∧∀ (h2:H) (k2:AV→H→Option X),h2.tk=h.tk→builtinA cx b ts args h2 k2=k2 v { h2 with tk:=tk' }):=by
 unfold builtinA at hk
 split at hk
 · split at hk
   · split at hk
     · rename_i ht
       exact .inl ⟨_,hk,fun h2 k2=>by unfold builtinA; simp only [ht]⟩
     · rename_i ht
       split at hk
       · exact .inl ⟨_,hk,fun h2 k2=>by unfold builtinA; simp only [ht]⟩
       · cases hk
     · rename_i ht
       split at hk
       · exact .inl ⟨_,hk,fun h2 k2=>by unfold builtinA; simp only [ht]⟩
       · exact .inl ⟨_,hk,fun h2 k2=>by unfold builtinA; simp only [ht]⟩
       · exact .inl ⟨_,hk,fun h2 k2=>by unfold builtinA; simp only [ht]⟩
       · cases hk
     · cases hk
   · cases hk
 · right
   refine ⟨rfl,?_⟩
   split at hk
   · split at hk
     · rename_i ht
       obtain ⟨v,tk',g1,g2⟩:=zfj hk
       exact ⟨v,tk',g1,fun h2 k2 e=>by unfold builtinA; simp only [ht]; exact g2 h2 k2 e⟩
     · rename_i ht
       obtain ⟨v,tk',g1,g2⟩:=zfj hk
       exact ⟨v,tk',g1,fun h2 k2 e=>by unfold builtinA; simp only [ht]; exact g2 h2 k2 e⟩
     · cases hk
   · cases hk
 · split at hk
   · rename_i hq
     exact .inl ⟨_,hk,fun h2 k2=>by unfold builtinA; simp only [hq,if_true]⟩
   · cases hk
 · split at hk
   · rename_i hq
     exact .inl ⟨_,hk,fun h2 k2=>by unfold builtinA; simp only [hq,if_true]⟩
   · cases hk
 · cases hk
theorem zom {cx:Cx X} {O:Open X} {Y:Ys} {g:Nat} {first cap args:List AV} (hc:((cx.C g).isSome&&(cx.pr g).isNone)=true) {h:H} {k:AV→H→Option X} {r:X} (hk:callA cx O Y (.fn g first cap) args h k=some r) :
 ∃ v tk',k v { h with tk:=tk' }=some r∧∀ (h2:H) (k2:AV→H→Option X),h2.tk=h.tk→callA cx O Y (.fn g first cap) args h2 k2=k2 v { h2 with tk:=tk' }:=by
 unfold callA at hk
 simp only [Bool.and_eq_true] at hk hc
 obtain ⟨hc,hpn⟩:=hc
 have hpn:cx.pr g=none:=by simpa using hpn
 rw [hpn] at hk
 simp only at hk
 split at hk
 · rename_i orc horc
   have h1:=(zb hk).1
   have h2:=(zb hk).2
   split at h2
   · rename_i en hen
     cases hy:en.o with
     | none=>rw [hy] at h2; cases h2
     | some y =>
      rw [hy] at h2
      exact ⟨_,_,h2,fun h2' k2 e=>by unfold callA; simp only [hpn,horc,h1,cond_true,hen,hy,Option.bind_some,e]⟩
   · cases h2
 · rename_i hn
   rw [hn] at hc
   cases hc
end
end Go.AM
set_option linter.unusedVariables false
set_option linter.unusedSimpArgs false
namespace Go.AM
section
variable {X:Type} {cx:Cx X} {p:Nat} {O:Open X} {Y:Ys}
theorem DoesA.pure {o:Oper} {e:Env} {h:H} {k:AV→H→Option X} {r:X} {v:AV} (hk:k v h=some r) (h2:∀ (h2:H) (k2:AV→H→Option X),opA cx O Y o e h2 k2=k2 v h2)   : DoesA cx p O Y o e h k r:=
 ⟨v,.no,trivial,hk,fun h3 k2 _=>h2 h3 k2,trivial⟩
theorem DoesA.tks {o:Oper} {e:Env} {h:H} {k:AV→H→Option X} {r:X} {v:AV} {tk':List (Option Nat)} (hk:k v { h with tk:=tk' }=some r) (h2:∀ (h2:H) (k2:AV→H→Option X),h2.tk=h.tk→opA cx O Y o e h2 k2=k2 v { h2 with tk:=tk' })
 (hf:kindD cx.tab o=4∨kindD cx.tab o=5)   : DoesA cx p O Y o e h k r:=
 ⟨v,.tk h.tk tk',rfl,hk,fun h3 k2 e=>h2 h3 k2 e,hf⟩
theorem zqz {ty:Option Ty} {a:AV} {q off:Nat} (h:typA ty a = .ref q off):a = .ref q off:=by
 unfold typA at h
 split at h
 · cases h
 · unfold typ at h
   split at h
   · split at h<;>cases h
   · exact h
theorem zvb {F:List AV→List AV→Option AV} {args:List AV} {h:H} {k:AV→H→Option X} {r:X} (hk:prK (.rd F) args h k=some r):∃ q as cs v,args = .ref q 0::as∧h.bx[q]? = some cs∧isRow cs=false∧F cs as=some v∧k v h=some r:=by
 unfold prK at hk
 split at hk<;>rename_i he<;>try cases he
 · split at hk
   · rename_i cs hcs
     rw [zl] at hcs
     cases hir:isRow cs with
     | true=>rw [hir] at hk; cases hk
     | false =>
      rw [hir,cond_false] at hk
      split at hk
      · rename_i v hv; exact ⟨_,_,_,v,rfl,hcs,hir,hv,hk⟩
      · cases hk
   · cases hk
 · cases hk
theorem doesA {o:Oper} {e:Env} {h:H} {k:AV→H→Option X} {r:X} (hmb:makesBox o=false) (hc:closedCall cx o e=true) (hk:opA cx O Y o e h k=some r)   : DoesA cx p O Y o e h k r:=by
 have hk0:=hk
 unfold opA at hk
 split at hk
 · rename_i x ho
   exact .pure hk (fun h2 k2=>by unfold opA; simp only [ho])
 · rename_i x ho
   exact .pure hk (fun h2 k2=>by unfold opA; simp only [ho])
 · rename_i c x y ho
   split at hk
   · rename_i b hb
     cases b with
     | true=>exact .pure hk (fun h2 k2=>by unfold opA; simp only [ho,hb,cond_true])
     | false=>exact .pure hk (fun h2 k2=>by unfold opA; simp only [ho,hb,cond_false])
   · cases hk
 · rename_i t ho
   unfold makesBox at hmb
   simp only [ho] at hmb
   cases hmb
 · rename_i t x ho
   unfold makesBox at hmb
   simp only [ho] at hmb
   cases hmb
 · rename_i t parts ho
   split at hk
   · rename_i ti ht
     have h1:=(zb hk).1
     have h2:=(zb hk).2
     split at h2
     · rename_i fs hd
       split at h2
       · rename_i cs hcs
         exact .pure h2 (fun h2 k2=>by unfold opA; simp only [ho,ht,h1,cond_true,hd,hcs])
       · cases h2
     · rename_i n et hd
       split at h2
       · rename_i ei hei
         split at h2
         · rename_i cs hcs
           exact .pure h2 (fun h2 k2=>by unfold opA; simp only [ho,ht,h1,cond_true,hd,hei,hcs])
         · cases h2
       · cases h2
     · cases h2
   · cases hk
 · rename_i t len parts ho
   split at hk
   · rename_i ht
     split at hk
     · rename_i ti hei
       split at hk
       · rename_i τ hτ
         split at hk
         · rename_i l hl
           have h1:=(zb hk).1
           have h2:=(zb hk).2
           exact .pure h2 (fun h2 k2=>by unfold opA; simp only [ho,ht,hei,hτ,hl,h1,cond_true])
         · cases hk
       · rename_i hτ
         split at hk
         · rename_i l hl
           have h1:=(zb hk).1
           have h2:=(zb hk).2
           exact .pure h2 (fun h2 k2=>by unfold opA; simp only [ho,ht,hei,hτ,hl,h1,cond_true])
         · cases hk
     · cases hk
   · cases hk
 · rename_i t x ho
   split at hk
   · rename_i ti ht
     split at hk
     · rename_i v hv
       cases hx:ev e x with
       | ref q off =>
        rw [hx] at hv
        have hv':=hv
        simp only [loadA,zl] at hv'
        split at hv'
        · rename_i cs hcs
          refine ⟨v,.rd q cs,hcs,hk,fun h3 k2 e3 => ?_,⟨?_,?_⟩⟩
          · have e3:h3.bx[q]? = some cs:=e3
            have hl:loadA ti (.ref q off) h3=some v:=by
             simp only [loadA,zl,e3]
             exact hv'
            unfold opA; simp only [ho,ht,hx,hl]; rfl
          · unfold accOf; simp only [ho,hx]
          · left; unfold kindD; simp only [ho]
        · cases hv'
       | imm cs =>
        rw [hx] at hv
        have hl:∀ h3,loadA ti (.imm cs) h3=some v:=fun h3=>hv
        exact .pure hk (fun h3 k2=>by unfold opA; simp only [ho,ht,hx,hl])
       | _=>rw [hx] at hv; simp [loadA] at hv
     · cases hk
   · cases hk
 · rename_i t x y ho
   split at hk
   · rename_i ti ht
     split at hk
     · rename_i h' hs
       cases hx:ev e x with
       | ref q off =>
        rw [hx] at hs
        simp only [storeA,zl,zk] at hs
        have s1:=(zb hs).1
        have s2:=(zb hs).2
        split at s2
        · rename_i cs hcs
          cases hir:isRow cs with
          | true=>rw [hir] at s2; cases s2
          | false =>
          rw [hir,cond_false] at s2
          split at s2
          · rename_i cs' hcs'
            simp only [Option.some.injEq] at s2
            subst s2
            refine ⟨.tup [],.wr q cs cs',hcs,hk,fun h3 k2 e3 => ?_,⟨?_,?_⟩⟩
            · have e3:h3.bx[q]? = some cs:=e3
              have hl:storeA ti (.ref q off) (typ ti.ty (ev e y)) h3=some { h3 with bx:=h3.bx.set q cs' }:=by
               simp only [storeA,zl,e3,zk,s1,cond_true,hir,cond_false,hcs']
              unfold opA; simp only [ho,ht,hx,hl]; rfl
            · unfold accOf; simp only [ho,hx]
            · left; unfold kindD; simp only [ho]
          · cases s2
        · cases s2
       | _=>rw [hx] at hs; simp [storeA] at hs
     · cases hk
   · cases hk
 · rename_i x ho
   split at hk
   · rename_i hq
     exact .pure hk (fun h2 k2=>by unfold opA; simp only [ho,hq])
   · rename_i hq
     exact .pure hk (fun h2 k2=>by unfold opA; simp only [ho,hq])
   · rename_i hq
     exact .pure hk (fun h2 k2=>by unfold opA; simp only [ho,hq])
   · rename_i hq
     exact .pure hk (fun h2 k2=>by unfold opA; simp only [ho,hq])
   · cases hk
 · rename_i op t x y yt ho
   split at hk
   · rename_i b c hb hc
     split at hk
     · rename_i ht
       split at hk
       · exact .pure hk (fun h2 k2=>by unfold opA; simp only [ho,hb,hc,ht])
       · exact .pure hk (fun h2 k2=>by unfold opA; simp only [ho,hb,hc,ht])
       · cases hk
     · cases hk
   · rename_i τ l c hb hc2
     exfalso
     unfold closedCall at hc
     simp only [ho,hb,hc2] at hc
     cases hc
   · rename_i aS bs hb hc
     split at hk
     · rename_i ti c ht hcc
       have h1:=(zb hk).1
       have h2:=(zb hk).2
       split at h2
       · exact .pure h2 (fun h2 k2=>by unfold opA; simp only [ho,hb,hc,ht,hcc,h1,cond_true])
       · exact .pure h2 (fun h2 k2=>by unfold opA; simp only [ho,hb,hc,ht,hcc,h1,cond_true])
       · cases h2
     · cases hk
   · rename_i n1 n3 n2
     obtain ⟨v,g1,g2⟩:=zqy hk
     refine .pure g1 (fun h2 k2 => ?_)
     unfold opA
     simp only [ho]
     have g3:=g2 fun v=>k2 v h2
     clear hk g2
     revert n1 n3 n2
     generalize ev e x=xv at g3 ⊢
     generalize ev e y=yv at g3 ⊢
     intro n1 n3 n2
     cases xv<;>cases yv<;>first | exact g3 | exact (n1 _ _ rfl rfl).elim | exact (n2 _ _ rfl rfl).elim | exact (n3 _ _ _ rfl rfl).elim
 · rename_i op t x ho
   obtain ⟨v,g1,g2⟩:=ztm hk
   exact .pure g1 (fun h2 k2=>by unfold opA; simp only [ho]; exact g2 _)
 · rename_i s d x ho
   split at hk
   · rename_i hs hd hx
     exact .pure hk (fun h2 k2=>by unfold opA; simp only [ho,hs,hd,hx])
   · rename_i hs hd hx
     exact .pure hk (fun h2 k2=>by unfold opA; simp only [ho,hs,hd,hx])
   · rename_i hs hd hx
     split at hk
     · rename_i hee
       exact .pure hk (fun h2 k2=>by unfold opA; simp only [ho,hs,hd,hx,hee])
     · cases hk
   · rename_i hs hd hx
     split at hk
     · rename_i hee
       exact .tks hk (fun h2 k2 e=>by unfold opA; simp only [ho,hs,hd,hx,hee,e]) (by left; unfold kindD; simp only [ho,hd])
     · cases hk
   · cases hk
 · rename_i t m x ho
   simp [closedCall,ho] at hc
 · rename_i t l c ho
   split at hk
   · rename_i hs
     split at hk
     · rename_i hee
       split at hk
       · rename_i hty hl hc
         obtain ⟨hb,hk⟩:=zb hk
         exact .tks hk (fun h2 k2 e=>by unfold opA; simp only [ho,hs,hee,hty,hl,hc,e,hb,cond_true]) (by left; unfold kindD; simp only [ho])
       · cases hk
     · cases hk
   · cases hk
 · rename_i f first cap ho
   exact .pure hk (fun h2 k2=>by unfold opA; simp only [ho])
 · rename_i t x lo hi mx ho
   split at hk
   · rename_i ti ht
     obtain ⟨v,g1,g2⟩:=zm2 hk
     exact .pure g1 (fun h2 k2=>by unfold opA; simp only [ho,ht]; exact g2 _)
   · cases hk
 · rename_i t x f ho
   split at hk
   · rename_i ht
     split at hk
     · rename_i off ft hn
       split at hk
       · rename_i fi hfi
         have h1:=(zb hk).1
         have h2:=(zb hk).2
         split at h2
         · rename_i hx
           exact .pure h2 (fun h2 k2=>by unfold opA; simp only [ho,ht,hn,hfi,h1,cond_true,hx])
         · rename_i hx
           exact .pure h2 (fun h2 k2=>by unfold opA; simp only [ho,ht,hn,hfi,h1,cond_true,hx])
         · cases h2
       · cases hk
     · cases hk
   · cases hk
 · rename_i t x f ho
   split at hk
   · rename_i ht
     split at hk
     · rename_i off ft hn
       split at hk
       · rename_i fi cs hfi hcs
         split at hk
         · rename_i ds hds
           split at hk
           · rename_i v hv
             exact .pure hk (fun h2 k2=>by unfold opA; simp only [ho,ht,hn,hfi,hcs,hds,hv])
           · cases hk
         · cases hk
       · cases hk
     · cases hk
   · cases hk
 · rename_i t x i ho
   split at hk
   · rename_i ht
     split at hk
     · rename_i ti hei
       split at hk
       · rename_i τ l c q n hxx hii
         have h1:=(zb hk).1
         have h2:=(zb hk).2
         cases hidx:idx l n with
         | none=>rw [hidx] at h2; cases h2
         | some el =>
          rw [hidx] at h2
          exact .pure h2 (fun h2 k2=>by unfold opA; simp only [ho,ht,hei,hxx,hii,h1,cond_true,hidx,Option.bind_some])
       · rename_i n cs q i' hxx hii
         have h1:=(zb hk).1
         have h2:=(zb hk).2
         obtain ⟨v,g1,g2⟩:=zjn _ _ _ h2
         exact .pure g1 (fun h2 k2=>by unfold opA; simp only [ho,ht,hei,hxx,hii,h1,cond_true]; exact g2 _)
       · cases hk
     · cases hk
   · rename_i ht
     split at hk
     · rename_i ti hei
       split at hk
       · rename_i r0 o0 q n hxx hii
         obtain ⟨v,g1,g2⟩:=zjm _ _ _ _ hk
         exact .pure g1 (fun h2 k2=>by unfold opA; simp only [ho,ht,hei,hxx,hii]; exact g2 _)
       · cases hk
     · cases hk
   · cases hk
 · rename_i t x i ho
   split at hk
   · rename_i s q n hxx hii
     split at hk
     · rename_i ht
       cases hidx:idx s n with
       | none=>rw [hidx] at hk; cases hk
       | some el =>
        rw [hidx] at hk
        exact .pure hk (fun h2 k2=>by unfold opA; simp only [ho,hxx,hii,ht,hidx,Option.bind_some])
     · cases hk
   · rename_i cs q n hxx hii
     split at hk
     · rename_i ht
       split at hk
       · rename_i ei hei
         obtain ⟨v,g1,g2⟩:=zjo _ _ _ hk
         exact .pure g1 (fun h2 k2=>by unfold opA; simp only [ho,hxx,hii,ht,hei]; exact g2 _)
       · cases hk
     · cases hk
   · cases hk
 · rename_i t i ho
   split at hk
   · rename_i vs hvs
     split at hk
     · rename_i v hv
       exact .pure hk (fun h2 k2=>by unfold opA; simp only [ho,hvs,hv])
     · cases hk
   · cases hk
 · rename_i c ho
   split at hk
   · rename_i b hb
     rcases zjq hk with ⟨v,g1,g2⟩ | ⟨rfl,v,tk',g1,g2⟩
     · exact .pure g1 (fun h2 k2=>by unfold opA; simp only [ho,hb]; exact g2 h2 k2)
     · exact .tks g1 (fun h2 k2 e=>by unfold opA; simp only [ho,hb]; exact g2 h2 k2 e) (by left; unfold kindD; simp only [ho,hb])
   · rename_i f hf
     unfold closedCall at hc
     simp only [ho,hf] at hc
     split at hc
     · rename_i g first cap hfn
       rw [hfn] at hk
       rw [Bool.or_eq_true] at hc
       rcases hc with hc | hc
       rotate_left
       · simp only [Bool.and_eq_true,List.isEmpty_iff] at hc
         obtain ⟨hrd,rfl,rfl,hrk⟩:=hc
         have hk5:kindD cx.tab o=5:=by unfold kindD; simp only [ho,hf,hrk,cond_true]
         obtain ⟨F,hpr⟩:∃ F,cx.pr g=some (.rd F):=by
          unfold isRd at hrd
          split at hrd
          · rename_i F hF; exact ⟨F,hF⟩
          · cases hrd
         have hnf:needF cx (.fn g [] []) (evs cx e c.argTypes.toList c.args.toList)=false:=by unfold needF; simp [hpr]
         unfold callF at hk
         rw [hnf,cond_false] at hk
         unfold callA at hk
         simp only [hpr] at hk
         have hk1:prK (.rd F) ([]++evs cx e c.argTypes.toList c.args.toList++[]) h k=some r:=hk
         rw [List.nil_append,List.append_nil] at hk1
         obtain ⟨q,as,cs,v,hev,hbx,hir,hF,hkv⟩:=zvb hk1
         have hac:accOf p o e=some q:=by
          unfold accOf accC
          simp only [ho,hf,hfn]
          cases hl:c.args.toList with
          | nil=>rw [hl] at hev; cases hev
          | cons x xs =>
           rw [hl] at hev
           unfold evs at hev
           split at hev
           · simp only [List.cons.injEq] at hev
             have:=zqz hev.1
             simp only [this]
           · simp only [List.cons.injEq] at hev
             simp only [hev.1]
         refine ⟨v,.rd q cs,hbx,hkv,fun h3 k2 e3 => ?_,⟨hac,.inr hk5⟩⟩
         have e3:h3.bx[q]? = some cs:=e3
         unfold opA callF
         simp only [ho,hf,hfn,hnf,cond_false]
         unfold callA
         simp only [hpr]
         show prK (.rd F) ([]++evs cx e c.argTypes.toList c.args.toList++[]) h3 k2=_
         rw [List.nil_append,List.append_nil,hev]
         show (match nth h3.bx q with
          | some cs=>bif isRow cs then none else match F cs as with
           | some v=>k2 v h3
           | none=>none
          | none=>none)=_
         rw [zl,e3]
         simp only [hir,cond_false,hF]
         rfl
       have hc':=hc
       simp only [Bool.and_eq_true,Bool.not_eq_true'] at hc'
       have hnf:needF cx (.fn g first cap) (evs cx e c.argTypes.toList c.args.toList)=false:=by unfold needF; rw [hc'.2.2]; rfl
       unfold callF at hk
       rw [hnf,cond_false] at hk
       obtain ⟨v,tk',g1,g2⟩:=zom (by rw [hc'.1,hc'.2.1]; rfl) hk
       exact .tks g1 (fun h2 k2 e=>by unfold opA callF; simp only [ho,hf,hfn,hnf,cond_false]; exact g2 h2 k2 e) (by unfold kindD; simp only [ho,hf]; cases rdK cx.tab c.argTypes.toList<;>simp)
     · cases hc
   · cases hk
 · cases hk
theorem DoesX.pure {o:Oper} {e:Env} {h:H} {k:AV→H→Option X} {r:X} {v:AV} (hk:k v h=some r) (h2:∀ (h2:H) (k2:AV→H→Option X),opX cx O Y o e h2 k2=k2 v h2):DoesX cx p O Y o e h k r:=
 ⟨v,.no,trivial,hk,fun h3 k2 _=>h2 h3 k2,trivial⟩
theorem doesX {o:Oper} {e:Env} {h:H} {k:AV→H→Option X} {r:X} (hmb:makesBox o=false) (hc:closedX cx o e=true) (hk:opX cx O Y o e h k=some r):DoesX cx p O Y o e h k r:=by
 cases hr:isRowOp cx o e with
 | false =>
  have hX:∀ (h2:H) (k2:AV→H→Option X),opX cx O Y o e h2 k2=opA cx O Y o e h2 k2:=fun h2 k2=>by unfold opX; rw [hr,cond_false]
  unfold closedX at hc
  rw [hr,cond_false] at hc
  rw [hX] at hk
  obtain ⟨v,f,h1,h2,h3,h4⟩:=doesA (p:=p) hmb hc hk
  exact ⟨v,f,h1,h2,fun h2 k2 ho=>by rw [hX]; exact h3 h2 k2 ho,h4⟩
 | true =>
  have hX:∀ (h2:H) (k2:AV→H→Option X),opX cx O Y o e h2 k2=opR cx o e h2 k2:=fun h2 k2=>by unfold opX; rw [hr,cond_true]
  unfold closedX at hc
  rw [hr,cond_true] at hc
  rw [hX] at hk
  unfold softOp at hc
  split at hc
  · rename_i t m x b ho
    unfold opR at hk
    cases b with
    | false=>simp only [ho] at hk; cases hk
    | true =>
     simp only [ho] at hk
     obtain ⟨hm,hk⟩:=zb hk
     split at hk
     · rename_i rr s hme hxe
       split at hk
       · rename_i l hbx
         rw [zl] at hbx
         unfold mpLook at hk
         have go:∀ (h3:H) (k3:AV→H→Option X),h3.bx[rr]? = some [.mp l]→opX cx O Y o e h3 k3=mpLook l s (fun v=>k3 (.tup [.int .i64 v,.bool true]) h3) (k3 (.tup [.any,.bool false]) h3):=fun h3 k3 e3=>by
          rw [hX]
          unfold opR
          simp only [ho,hm,cond_true,hme,hxe,zl,e3]
         cases hg:mpGet l s with
         | none =>
          rw [hg] at hk
          refine ⟨.tup [.any,.bool false],.rd rr [.mp l],hbx,hk,fun h3 k3 e3 => ?_,⟨?_,?_⟩⟩
          · rw [go h3 k3 e3]; unfold mpLook; rw [hg]; rfl
          · unfold accOf; simp only [ho,hme]
          · left; unfold kindD; simp only [ho]
         | some v =>
          rw [hg] at hk
          refine ⟨.tup [.int .i64 v,.bool true],.rd rr [.mp l],hbx,hk,fun h3 k3 e3 => ?_,⟨?_,?_⟩⟩
          · rw [go h3 k3 e3]; unfold mpLook; rw [hg]; rfl
          · unfold accOf; simp only [ho,hme]
          · left; unfold kindD; simp only [ho]
       · cases hk
     · cases hk
  · rename_i t m x y ho
    unfold opR at hk
    simp only [ho] at hk
    obtain ⟨hm,hk⟩:=zb hk
    split at hk
    · rename_i rr s n hme hxe hye
      split at hk
      · rename_i l hbx
        rw [zl] at hbx
        refine ⟨.tup [],.wr rr [.mp l] [.mp (mpSet l s n)],hbx,by rw [zk] at hk; exact hk,fun h3 k3 e3 => ?_,⟨?_,.inl ?_⟩⟩
        · rw [hX]
          unfold opR
          have e3':h3.bx[rr]? = some [.mp l]:=e3
          simp only [ho,hm,cond_true,hme,hxe,hye,zl,e3',zk]
          rfl
        · unfold accOf; simp only [ho,hme]
        · unfold kindD; simp only [ho]
      · cases hk
    · cases hk
  · rename_i t x ho
    unfold opR at hk
    simp only [ho] at hk
    split at hk
    · rename_i ti ht
      split at hk
      · rename_i rr v i off τ hxx
        obtain ⟨l,hq,hk,hrow⟩:=zv hk
        obtain ⟨el,hel,hk⟩:=Option.bind_eq_some_iff.1 hk
        split at hk
        · rename_i cs hcs
          split at hk
          · rename_i av hav
            refine ⟨av,.rd rr [.row v τ l],hq,hk,fun h3 k2 e3 => ?_,⟨?_,?_⟩⟩
            · rw [hX]
              unfold opR
              simp only [ho,ht,hxx]
              rw [hrow h3 _ e3]
              simp only [hel,Option.bind_some,hcs,hav]
              rfl
            · unfold accOf; simp only [ho,hxx]
            · left; unfold kindD; simp only [ho]
          · cases hk
        · cases hk
      · cases hk
    · cases hk
  · rename_i t x y ho
    unfold opR at hk
    simp only [ho] at hk
    split at hk
    · rename_i ti ht
      have hms:isMs (ev e y)=false:=by
       cases hm:isMs (ev e y) with
       | false=>rfl
       | true=>rw [hm] at hc; cases hc
      split at hk
      · rename_i rr v i off τ hxx
        have c1:=(zb hk).1
        have hk:=(zb hk).2
        obtain ⟨l,hq,hk,hrow⟩:=zv hk
        obtain ⟨el,hel,hk⟩:=Option.bind_eq_some_iff.1 hk
        split at hk
        · rename_i ds hds
          split at hk
          · rename_i z hz
            simp only [zk] at hk
            refine ⟨.tup [],.wr rr [.row v τ l] [.row v τ (l.set i.toNat z)],hq,hk,fun h3 k2 e3 => ?_,⟨?_,?_⟩⟩
            · rw [hX]
              unfold opR
              simp only [ho,ht,hxx,c1,cond_true]
              rw [hrow h3 _ e3]
              simp only [hel,Option.bind_some,hds,hz,zk]
              rfl
            · unfold accOf; simp only [ho,hxx]
            · left; unfold kindD; simp only [ho]
          · cases hk
        · cases hk
      · rename_i hne
        exfalso
        unfold isRowOp at hr
        simp only [ho,hms,Bool.or_false] at hr
        cases hxx:ev e x<;>rw [hxx] at hr<;>first | (cases hr; done) | exact hne _ _ _ _ _ hxx
    · cases hk
  · rename_i t x f ho
    unfold opR at hk
    simp only [ho] at hk
    split at hk
    · rename_i ht
      split at hk
      · rename_i off ft hn
        split at hk
        · rename_i fi hfi
          have c1:=(zb hk).1
          have hk:=(zb hk).2
          split at hk
          · rename_i hxx
            exact .pure hk (fun h2 k2=>by rw [hX]; unfold opR; simp only [ho,ht,hn,hfi,c1,cond_true,hxx])
          · cases hk
        · cases hk
      · cases hk
    · cases hk
  · rename_i t x i ho
    unfold opR at hk
    simp only [ho] at hk
    split at hk
    · rename_i ht
      split at hk
      · rename_i ti hti
        split at hk
        · rename_i hxx hii
          have c1:=(zb hk).1
          have hk:=(zb hk).2
          exact .pure hk (fun h2 k2=>by rw [hX]; unfold opR; simp only [ho,ht,hti,hxx,hii,c1,cond_true])
        · cases hk
      · cases hk
    · cases hk
  · rename_i c ho
    split at hc
    · rename_i hb
      unfold opR at hk
      simp only [ho,hb] at hk
      split at hk
      · rename_i t x hts has
        split at hk
        · rename_i ht
          split at hk
          · rename_i hxx
            exact .pure hk (fun h2 k2=>by rw [hX]; unfold opR; simp only [ho,hb,hts,has,ht,hxx])
          · cases hk
        · cases hk
      · cases hk
    · cases hc
  · cases hc
theorem zb2 {q:Nat} {cs:List AV} {h:H} {k:AV→H→Option X} {r:X} (hk:fillK q cs h k=some r):h.bx[q]? = some hole∧k (.ref q 0) { h with bx:=h.bx.set q cs }=some r ∧
 ∀ (h2:H) (k2:AV→H→Option X),h2.bx[q]? = some hole→fillK q cs h2 k2=k2 (.ref q 0) { h2 with bx:=h2.bx.set q cs }:=by
 unfold fillK at hk
 rw [zl] at hk
 split at hk
 · rename_i c hc
   obtain ⟨h1,hk⟩:=zb hk
   have:c=hole:=by
    unfold isHole at h1
    split at h1
    · rfl
    · cases h1
   subst this
   rw [zk] at hk
   refine ⟨hc,hk,fun h2 k2 h3 => ?_⟩
   unfold fillK
   rw [zl,h3]
   simp only [zk]
   rfl
 · cases hk
theorem zm3 {o:Oper} (h:makesBox o=false) (e:Env) (hh:H) (k:AV→H→Option X):opP cx p O Y o e hh k=opX cx O Y o e hh k:=by
 unfold makesBox at h
 unfold opP
 cases ho:o.op<;>rw [ho] at h<;>first | rfl | cases h
theorem does {o:Oper} {e:Env} {h:H} {k:AV→H→Option X} {r:X} (hc:closedX cx o e=true) (hk:opP cx p O Y o e h k=some r):Does cx p O Y o e h k r:=by
 cases hmb:makesBox o with
 | false =>
  rw [zm3 hmb] at hk
  obtain ⟨v,f,h1,h2,h3,h4⟩:=doesX (p:=p) hmb hc hk
  exact ⟨v,f,h1,h2,fun h2 k2 ho=>by rw [zm3 hmb]; exact h3 h2 k2 ho,h4⟩
 | true =>
  unfold makesBox at hmb
  split at hmb
  · rename_i t ho
    unfold opP at hk
    simp only [ho] at hk
    split at hk
    · rename_i ti ht
      have h1:=(zb hk).1
      have hk:=(zb hk).2
      obtain ⟨q1,q2,q3⟩:=zb2 hk
      refine ⟨.ref p 0,.wr p hole ti.zero,q1,q2,fun h2 k2 e2 => ?_,?_,?_⟩
      · unfold opP
        simp only [ho,ht,h1,cond_true]
        exact q3 h2 k2 e2
      · unfold accOf; simp only [ho]
      · unfold kindD; simp only [ho]; simp
    · cases hk
  · rename_i t x ho
    unfold opP at hk
    simp only [ho] at hk
    split at hk
    · rename_i ti ht
      have h1:=(zb hk).1
      have hk:=(zb hk).2
      obtain ⟨q1,q2,q3⟩:=zb2 hk
      refine ⟨.ref p 0,.wr p hole (cellsOf (typ ti.ty (ev e x))),q1,q2,fun h2 k2 e2 => ?_,?_,?_⟩
      · unfold opP
        simp only [ho,ht,h1,cond_true]
        exact q3 h2 k2 e2
      · unfold accOf; simp only [ho]
      · unfold kindD; simp only [ho]; simp
    · cases hk
  · cases hmb
end
end Go.AM
set_option linter.unusedVariables false
set_option linter.unusedSimpArgs false
namespace Go.AM
section
variable {X:Type} {cx:Cx X} {O:Open X} {Y:Ys}
def GetEq (e e':Env):Prop:=∀ t,get e t=get e' t
theorem GetEq.ev {e e':Env} (h:GetEq e e') (x:Operand):ev e x=ev e' x:=by
 cases x with
 | tmp t=>exact h t
 | _=>rfl
theorem GetEq.refl (e:Env):GetEq e e:=fun _=>rfl
theorem GetEq.symm {e e':Env} (h:GetEq e e'):GetEq e' e:=fun t=>(h t).symm
theorem GetEq.trans {a b c:Env} (h:GetEq a b) (k:GetEq b c):GetEq a c:=fun t=>(h t).trans (k t)
def pute (e:Env) (d:Option Nat) (v:AV):Env:=match d with
 | none=>e
 | some d=>(d,v)::e
theorem zbx (d:Nat) (v:AV) (e:Env) (t:Nat):get ((d,v)::e) t=if d=t then v else get e t:=by
 simp only [get]
 by_cases h:d=t
 · subst h; simp
 · rw [if_neg h]
   have:Nat.beq d t=false:=by
    cases hb:Nat.beq d t
    · rfl
    · exact absurd (Nat.eq_of_beq_eq_true hb) h
   rw [this]; rfl
theorem zy (e:Env) (d:Option Nat) (v:AV) (t:Nat):get (pute e d v) t=if d=some t then v else get e t:=by
 cases d with
 | none=>simp [pute]
 | some d=>simp only [pute,zbx,Option.some.injEq]
theorem GetEq.pute {e e':Env} (h:GetEq e e') (d:Option Nat) (v:AV):GetEq (pute e d v) (pute e' d v):=fun t=>by rw [zy,zy,h t]
theorem zcy {N:Nat} {e:Env} {d:Option Nat} {v:AV} {k:Env→Option X} {r:X} (h:put N e d v k=some r):(∀ t,d=some t→t<N)∧k (pute e d v)=some r:=by
 cases d with
 | none=>exact ⟨fun t h=>(by cases h),h⟩
 | some d =>
  obtain ⟨h1,h2⟩:=zb h
  exact ⟨fun t ht=>by cases ht; exact nblt.1 h1,h2⟩
theorem zej {N:Nat} {e:Env} {d:Option Nat} {v:AV} {k:Env→Option X} (h:∀ t,d=some t→t<N):put N e d v k=k (pute e d v):=by
 cases d with
 | none=>rfl
 | some d=>simp only [put,nblt.2 (h d rfl),cond_true,pute]
def push (i:Nat) (en:Option Nat) (acc:List (Nat×Nat)):List (Nat×Nat):=match en with
 | none=>acc
 | some q=>(i,q)::acc
def NoClash (conf:List (Nat×Nat)) (i:Nat) (en:Option Nat) (acc:List (Nat×Nat)):Prop:=∀ q,en=some q→clash conf i q acc=false
theorem zaa {conf:List (Nat×Nat)} {i q:Nat}:∀ {acc:List (Nat×Nat)},clash conf i q acc=false↔∀ p∈acc,q=p.2→inConf p.1 i conf=false∧inConf i p.1 conf=false
 | []=>by simp [clash]
 | (j, q')::acc=>by
  simp only [clash,Bool.or_eq_false_iff,zaa (acc:=acc),List.mem_cons,forall_eq_or_imp,Bool.and_eq_false_iff]
  constructor
  · rintro ⟨h1,h2⟩
    refine ⟨fun e => ?_,h2⟩
    rcases h1 with h1 | h1
    · rw [show q=q' from e,nbeq.2 rfl] at h1; cases h1
    · exact h1
  · rintro ⟨h1,h2⟩
    refine ⟨?_,h2⟩
    by_cases e:q=q'
    · exact .inr (h1 e)
    · left
      cases hb:Nat.beq q q'
      · rfl
      · exact absurd (nbeq.1 hb) e
theorem NoClash.less {conf:List (Nat×Nat)} {i:Nat} {en:Option Nat} {acc acc':List (Nat×Nat)} (h:NoClash conf i en acc) (hs:∀ p∈acc',p∈acc):NoClash conf i en acc':=fun q hq=>zaa.2 fun p hp e=>zaa.1 (h q hq) p (hs p hp) e
section
variable {conf:List (Nat×Nat)} {N nb:Nat} {ops:Array Oper}
theorem zl7 {p i:Nat} {o:Oper} {e:Env} {h:H} {acc:List (Nat×Nat)} {k:Env→H→List (Nat×Nat)→Option X} {r:X} (hk:goD cx conf O N Y p i o e h acc k=some r) :
 ∃ (v:AV) (f:Fx),f.ok h∧f.fits cx.tab o (accOf p o e)∧NoClash conf i (accOf p o e) acc∧k (pute e o.dst v) (f.go h) (push i (accOf p o e) acc)=some r ∧
  ∀ (e2:Env) (h2:H) (acc2:List (Nat×Nat)) (k2:Env→H→List (Nat×Nat)→Option X),(∀ x∈o.op.operands,ev e2 x=ev e x)→f.ok h2→NoClash conf i (accOf p o e) acc2→goD cx conf O N Y p i o e2 h2 acc2 k2=k2 (pute e2 o.dst v) (f.go h2) (push i (accOf p o e) acc2):=by
 unfold goD at hk
 obtain ⟨hc,hk⟩:=zb hk
 split at hk
 · rename_i q hq
   cases hcl:clash conf i q acc with
   | true=>rw [hcl] at hk; cases hk
   | false =>
    rw [hcl] at hk
    simp only [cond_false] at hk
    obtain ⟨v,f,h1,h2,h3,h4⟩:=does (p:=p) hc hk
    obtain ⟨hd,h2⟩:=zcy h2
    refine ⟨v,f,h1,h4,fun q' hq'=>(by rw [hq] at hq'; cases hq'; exact hcl),by rw [hq]; exact h2,fun e2 h2' acc2 k2 he hok hn => ?_⟩
    unfold goD
    rw [zcr (cx:=cx) o he,hc,zei o he,hq]
    simp only [cond_true,hn q hq,cond_false]
    rw [ze6 o he,h3 h2' _ hok,zej hd]
    rfl
 · rename_i hq
   obtain ⟨v,f,h1,h2,h3,h4⟩:=does (p:=p) hc hk
   obtain ⟨hd,h2⟩:=zcy h2
   refine ⟨v,f,h1,h4,fun q' hq'=>(by rw [hq] at hq'; cases hq'),by rw [hq]; exact h2,fun e2 h2' acc2 k2 he hok hn => ?_⟩
   unfold goD
   rw [zcr (cx:=cx) o he,hc,zei o he,hq]
   simp only [cond_true]
   rw [ze6 o he,h3 h2' _ hok,zej hd]
   rfl
def StepOK (cx:Cx X) (O:Open X) (Y:Ys) (conf:List (Nat×Nat)) (N nb:Nat) (ops:Array Oper) (i:Nat) (o:Oper) (e:Env) (v:AV) (f:Fx) (en:Option Nat):Prop:=
 ∀ (e2:Env) (h2:H) (acc2:List (Nat×Nat)) (k2:Env→H→List (Nat×Nat)→Option X),(∀ t∈o.looksAt ops,get e2 t=get e t)→f.ok h2→NoClash conf i en acc2 →
  ∃ e3,GetEq e3 e2∧smallD cx conf O N Y nb ops.toList i o e2 h2 acc2 k2=k2 (pute e3 o.dst v) (f.go h2) (push i en acc2)
theorem zjr {o:Oper} {e e2:Env} (h:∀ t∈o.looksAt ops,get e2 t=get e t):∀ x∈o.op.operands,ev e2 x=ev e x:=fun x hx=>by
 cases x with
 | tmp t =>
  refine h t ?_
  simp only [Oper.looksAt,List.mem_append,List.mem_filterMap]
  exact .inl ⟨.tmp t,by simpa using hx,rfl⟩
 | _=>rfl
theorem zjs {j d:Nat} (h:dstOf ops.toList j=some d):(ops[j]?).bind (·.dst)=some d:=by
 unfold dstOf at h
 rw [zl] at h
 split at h
 · rename_i o ho
   have:ops[j]? = some o:=by simpa using ho
   rw [this]
   exact h
 · cases h
theorem zde {i:Nat} {o:Oper} {e:Env} {h:H} {acc:List (Nat×Nat)} {k:Env→H→List (Nat×Nat)→Option X} {r:X} (hk:smallD cx conf O N Y nb ops.toList i o e h acc k=some r) :
 ∃ (v:AV) (f:Fx) (en:Option Nat),f.ok h∧f.fits cx.tab o en∧NoClash conf i en acc∧(∃ e1,GetEq e1 e∧k (pute e1 o.dst v) (f.go h) (push i en acc)=some r)∧StepOK cx O Y conf N nb ops i o e v f en:=by
 have hk0:=hk
 unfold smallD at hk
 split at hk
 · rename_i hg
   obtain ⟨v,f,h1,h2,h3,h4,h5⟩:=zl7 hk
   refine ⟨v,f,_,h1,h2,h3,⟨e,.refl e,h4⟩,fun e2 h2 acc2 k2 he hok hn=>⟨e2,.refl e2,?_⟩⟩
   unfold smallD
   rw [hg]
   exact h5 e2 h2 acc2 k2 (zjr he) hok hn
 · rename_i j w hg
   split at hk
   · rename_i d hd
     split at hk
     · rename_i b hb
       have hlook:d∈o.looksAt ops:=by
        simp only [Oper.looksAt,hg,List.mem_append]
        exact .inr (by rw [zjs hd]; simp)
       have same:∀ {c:Bool} {e2:Env},get e2 d = .bool c→GetEq ((d,.bool c)::e2) e2:=fun {c e2} h t=>by
        rw [zbx]
        split
        · rename_i e; subst e; exact h.symm
        · rfl
       have hev:∀ {c:Bool} {e2:Env},get e2 d = .bool c→∀ x,ev ((d,.bool c)::e2) x=ev e2 x:=fun h x=>(same h).ev x
       have run:b=w→goD cx conf O N Y (nb+rankOf ops.toList i) i o ((d,.bool w)::e) h acc k=some r→(∃ (v:AV) (f:Fx) (en:Option Nat),f.ok h∧f.fits cx.tab o en∧NoClash conf i en acc∧(∃ e1,GetEq e1 e∧k (pute e1 o.dst v) (f.go h) (push i en acc)=some r)∧StepOK cx O Y conf N nb ops i o e v f en):=fun hbw hk=>by
        subst hbw
        obtain ⟨v,f,h1,h2,h3,h4,h5⟩:=zl7 hk
        have goal:∃ (v:AV) (f:Fx) (en:Option Nat),f.ok h∧f.fits cx.tab o en∧NoClash conf i en acc∧(∃ e1,GetEq e1 e∧k (pute e1 o.dst v) (f.go h) (push i en acc)=some r)∧StepOK cx O Y conf N nb ops i o e v f en:=by
         refine ⟨v,f,_,h1,h2,h3,⟨_,same hb,h4⟩,fun e2 h2 acc2 k2 he hok hn => ?_⟩
         have hb2:get e2 d = .bool b:=(he d hlook).trans hb
         refine ⟨_,same hb2,?_⟩
         have h6:=h5 ((d,.bool b)::e2) h2 acc2 k2 (fun x hx=>by rw [hev hb2,hev hb]; exact zjr he x hx) hok hn
         unfold smallD
         rw [hg]
         simp only [hd,hb2]
         cases b<;>exact h6
        exact goal
       have pass:b = !w→(put N ((d,.bool (!w))::e) o.dst (.tup []) fun e=>k e h acc)=some r→(∃ (v:AV) (f:Fx) (en:Option Nat),f.ok h∧f.fits cx.tab o en∧NoClash conf i en acc∧(∃ e1,GetEq e1 e∧k (pute e1 o.dst v) (f.go h) (push i en acc)=some r)∧StepOK cx O Y conf N nb ops i o e v f en):=fun hbw hk=>by
        obtain ⟨hdst,hk⟩:=zcy hk
        have goal:∃ (v:AV) (f:Fx) (en:Option Nat),f.ok h∧f.fits cx.tab o en∧NoClash conf i en acc∧(∃ e1,GetEq e1 e∧k (pute e1 o.dst v) (f.go h) (push i en acc)=some r)∧StepOK cx O Y conf N nb ops i o e v f en:=by
         refine ⟨.tup [],.no,none,trivial,trivial,fun q hq=>(by cases hq),⟨_,same (by rw [hb,hbw]),hk⟩,fun e2 h2 acc2 k2 he hok hn => ?_⟩
         have hb2:get e2 d = .bool (!w):=(he d hlook).trans (by rw [hb,hbw])
         refine ⟨_,same hb2,?_⟩
         unfold smallD
         rw [hg]
         simp only [hd,hb2]
         cases w<;>simp only [Bool.not_false,Bool.not_true,cond_true,cond_false]<;>exact zej hdst
        exact goal
       cases w<;>cases b<;>simp only [cond_true,cond_false] at hk
       · exact run rfl hk
       · exact pass rfl hk
       · exact pass rfl hk
       · exact run rfl hk
     · rename_i vs hb
       obtain ⟨hdst,hk⟩:=zcy hk
       have hlook:d∈o.looksAt ops:=by
        simp only [Oper.looksAt,hg,List.mem_append]
        exact .inr (by rw [zjs hd]; simp)
       refine ⟨.tup [],.no,none,trivial,trivial,fun q hq=>(by cases hq),⟨e,.refl e,hk⟩,fun e2 h2 acc2 k2 he hok hn=>⟨e2,.refl e2,?_⟩⟩
       have hb2:get e2 d = .tup vs:=(he d hlook).trans hb
       unfold smallD
       rw [hg]
       simp only [hd,hb2]
       exact zej hdst
     · cases hk
   · cases hk
def Ins (k:Env→H→Option X):Prop:=∀ e e' h,GetEq e e'→k e h=k e' h
theorem zae {i:Nat} (hi:inConf i i conf=false) (o:Oper) (e:Env) (h:H) (acc:List (Nat×Nat)) (k:Env→H→List (Nat×Nat)→Option X):stepD cx conf O N Y nb ops.toList i o e h acc k=smallD cx conf O N Y nb ops.toList i o e h acc k:=by
 unfold stepD; rw [hi]; rfl
theorem zby {i:Nat} (hi:inConf i i conf=true) (o:Oper) (e:Env) (h:H) (acc:List (Nat×Nat)) (k:Env→H→List (Nat×Nat)→Option X):stepD cx conf O N Y nb ops.toList i o e h acc k=bigD cx conf O N Y i o e h acc k:=by
 unfold stepD; rw [hi]; rfl
theorem zgr {J:Env→Prop} {k1 k2:Env→H→List (Nat×Nat)→Option X} {i:Nat} {o:Oper} (hJ:∀ e v,J e→J (pute e o.dst v)) (hJ':∀ e e',GetEq e e'→J e→J e') (hk:∀ e e' h acc,J e→GetEq e e'→k1 e h acc=k2 e' h acc) {e e':Env} (he:GetEq e e') (hj:J e) (h:H) (acc:List (Nat×Nat)) :
 stepD cx conf O N Y nb ops.toList i o e h acc k1=stepD cx conf O N Y nb ops.toList i o e' h acc k2:=by
 have pt:∀ (e e':Env) (v:AV) (h:H) (acc:List (Nat×Nat)),J e→GetEq e e'→(put N e o.dst v fun e=>k1 e h acc)=put N e' o.dst v fun e=>k2 e h acc:=by
  intro e e' v h acc hj he
  have hj2:=hJ e v hj
  have he2:=he.pute o.dst v
  revert hj2 he2
  cases o.dst with
  | none=>exact fun hj2 he2=>hk e e' h acc hj he
  | some d =>
   intro hj2 he2
   simp only [put]
   cases Nat.blt d N with
   | false=>rfl
   | true=>exact hk _ _ h acc hj2 he2
 have go : ∀ (e e':Env),J e→GetEq e e'→goD cx conf O N Y (nb+rankOf ops.toList i) i o e h acc k1=goD cx conf O N Y (nb+rankOf ops.toList i) i o e' h acc k2:=by
  intro e e' hj he
  unfold goD
  rw [zcr o (fun x _=>he.ev x),zei o (fun x _=>he.ev x)]
  cases closedX cx o e' with
  | false=>rfl
  | true =>
   simp only [cond_true]
   split
   · cases clash conf i _ acc with
     | true=>rfl
     | false =>
      simp only [cond_false]
      rw [ze6 o (fun x _=>he.ev x)]
      congr 1
      funext v h
      exact pt _ _ _ _ _ hj he
   · rw [ze6 o (fun x _=>he.ev x)]
     congr 1
     funext v h
     exact pt _ _ _ _ _ hj he
 cases hi:inConf i i conf with
 | true =>
  rw [zby hi,zby hi]
  unfold bigD
  cases hg:o.guard with
  | none =>
   simp only
   rw [zhg o (fun x _=>he.ev x)]
   congr 1
   funext v h'
   rw [pt _ _ _ _ _ hj he]
  | some g=>rfl
 | false =>
  rw [zae hi,zae hi]
  unfold smallD
  split
  · exact go e e' hj he
  · split
    · rename_i d hd
      rw [← he d]
      split
      · rename_i b hb
        have hc:∀ v,GetEq ((d,v)::e) ((d,v)::e'):=fun v=>he.pute (some d) v
        have hcc:∀ c,b=c→J ((d,.bool c)::e):=fun c hbc=>hJ' e _ (fun t=>by
         rw [zbx]
         split
         · rename_i e1; subst e1; rw [hb,hbc]
         · rfl) hj
        split<;>cases b<;>simp only [cond_true,cond_false]<;>first | exact go _ _ (hcc _ rfl) (hc _) | exact pt _ _ _ _ _ (hcc _ rfl) (hc _)
      · exact pt _ _ _ _ _ hj he
      · rfl
    · rfl
theorem zbd {k:Env→H→Option X} (hk:Ins k):∀ (os:List (Nat×Oper)) (e e':Env) (h:H) (acc:List (Nat×Nat)),GetEq e e'→opsD cx conf O N Y nb ops.toList os e h acc k=opsD cx conf O N Y nb ops.toList os e' h acc k
 | [],e,e',h,acc,he=>hk e e' h he
 | (i,o)::os,e,e',h,acc,he=>by
  simp only [opsD]
  exact zgr (J:=fun _=>True) (fun _ _ _=>trivial) (fun _ _ _ _=>trivial) (fun e e' h acc _ he=>zbd hk os e e' h acc he) he trivial h acc
theorem zon {i q:Nat} {acc acc':List (Nat×Nat)} (h:∀ p,p∈acc↔p∈acc'):clash conf i q acc=clash conf i q acc':=by
 have key:∀ {a b:List (Nat×Nat)},(∀ p,p∈b→p∈a)→clash conf i q a=false→clash conf i q b=false:=fun hs h0=>zaa.2 fun p hp=>zaa.1 h0 p (hs p hp)
 cases h1:clash conf i q acc with
 | false=>exact (key (fun p hp=>(h p).2 hp) h1).symm
 | true =>
  cases h2:clash conf i q acc' with
  | true=>rfl
  | false=>rw [key (fun p hp=>(h p).1 hp) h2] at h1; cases h1
theorem zbm {i:Nat} {h h':H} {k:Option X} {r:X}:∀ {acc:List (Nat×Nat)},eqAll conf i h h' acc k=some r↔(∀ p∈acc,inConf p.1 i conf=true→nth h.bx p.2=nth h'.bx p.2)∧k=some r
 | []=>by simp [eqAll]
 | (j,q)::acc=>by
  simp only [eqAll,List.mem_cons,forall_eq_or_imp]
  cases hc:inConf j i conf with
  | false=>simp only [cond_false,zbm (acc:=acc)]; simp
  | true =>
   simp only [cond_true,eqK]
   by_cases e:nth h.bx q=nth h'.bx q
   · rw [if_pos e,zbm (acc:=acc)]; simp [e]
   · rw [if_neg e]; simp [e]
theorem zoo {i:Nat} {h h':H} {k:Option X} {acc acc':List (Nat×Nat)} (hm:∀ p,p∈acc↔p∈acc'):eqAll conf i h h' acc k=eqAll conf i h h' acc' k:=by
 apply Option.ext
 intro r
 show eqAll conf i h h' acc k=some r↔eqAll conf i h h' acc' k=some r
 rw [zbm,zbm]
 exact ⟨fun ⟨a,b⟩=>⟨fun p hp=>a p ((hm p).2 hp),b⟩,fun ⟨a,b⟩=>⟨fun p hp=>a p ((hm p).1 hp),b⟩⟩
theorem zjt {k:Env→H→Option X}:∀ (os:List (Nat×Oper)) (e:Env) (h:H) (acc acc':List (Nat×Nat)),(∀ p,p∈acc↔p∈acc')→opsD cx conf O N Y nb ops.toList os e h acc k=opsD cx conf O N Y nb ops.toList os e h acc' k
 | [],e,h,acc,acc',_=>rfl
 | (i, o)::os,e,h,acc,acc',hm=>by
  have ih:=fun e h acc acc' hm=>zjt (k:=k) os e h acc acc' hm
  have hp:∀ (q:Nat×Nat) p,p∈q::acc↔p∈q::acc':=fun q p=>by simp [hm p]
  have pt:∀ (e:Env) (d:Option Nat) (v:AV) (h:H),(put N e d v fun e=>opsD cx conf O N Y nb ops.toList os e h acc k)=put N e d v fun e=>opsD cx conf O N Y nb ops.toList os e h acc' k:=fun e d v h=>by
   congr 1; funext e; exact ih e h _ _ hm
  have go:∀ e,goD cx conf O N Y (nb+rankOf ops.toList i) i o e h acc (fun e h acc=>opsD cx conf O N Y nb ops.toList os e h acc k)=goD cx conf O N Y (nb+rankOf ops.toList i) i o e h acc' fun e h acc=>opsD cx conf O N Y nb ops.toList os e h acc k:=fun e=>by
   unfold goD
   split
   · rename_i q hq
     rw [zon hm]
     congr 3
     funext v h
     congr 1; funext e; exact ih e h _ _ (hp _)
   · congr 2
     funext v h
     exact pt _ _ _ _
  simp only [opsD]
  cases hi:inConf i i conf with
  | true =>
   rw [zby hi,zby hi]
   unfold bigD
   cases hg:o.guard with
   | none =>
    simp only
    congr 1
    funext v h'
    rw [zoo hm,pt]
   | some g=>rfl
  | false =>
   rw [zae hi,zae hi]
   unfold smallD
   split
   · exact go e
   · split
     · split
       · simp only [go,pt]
       · exact pt _ _ _ _
       · rfl
     · rfl
end
end
end Go.AM
set_option linter.unusedVariables false
set_option linter.unusedSimpArgs false
namespace Go.AM
mutual
theorem AV.beq_eq:∀ a b:AV,a.beq b=true→a=b
 | .any,b,h=>by cases b<;>simp_all [AV.beq]
 | .bool x,b,h=>by cases b<;>simp_all [AV.beq]
 | .int _ _,b,h=>by cases b<;>simp_all [AV.beq]
 | .str _,b,h=>by cases b<;>simp_all [AV.beq]
 | .sl _ _ _,b,h=>by cases b<;>simp_all [AV.beq]
 | .nils,b,h=>by cases b<;>simp_all [AV.beq]
 | .agg _,b,h=>by cases b<;>simp_all [AV.beq]
 | .tup _,b,h=>by cases b<;>simp_all [AV.beq]
 | .nilp,b,h=>by cases b<;>simp_all [AV.beq]
 | .ref _ _,b,h=>by cases b<;>simp_all [AV.beq]
 | .imm _,b,h=>by cases b<;>simp_all [AV.beq]
 | .nilfn,b,h=>by cases b<;>simp_all [AV.beq]
 | .fn f x y,b,h=>by
  cases b with
  | fn g p q =>
   simp only [AV.beq,Bool.and_eq_true,nbeq] at h
   rw [h.1.1,zdf x p h.1.2,zdf y q h.2]
  | _=>simp [AV.beq] at h
 | .yield _,b,h=>by cases b<;>simp_all [AV.beq]
 | .err _,b,h=>by cases b<;>simp_all [AV.beq]
 | .imms n x,b,h=>by
  cases b with
  | imms m y =>
   simp only [AV.beq,Bool.and_eq_true,nbeq] at h
   rw [h.1,zdf x y h.2]
  | _=>simp [AV.beq] at h
 | .bcell _ _,b,h=>by cases b<;>simp_all [AV.beq]
 | .mref _,b,h=>by cases b<;>simp_all [AV.beq]
 | .fmp _,b,h=>by cases b<;>simp_all [AV.beq]
theorem zdf:∀ a b:List AV,beqAL a b=true→a=b
 | [],b,h=>by cases b<;>simp_all [beqAL]
 | a :: aS,b,h=>by
  cases b with
  | nil=>simp [beqAL] at h
  | cons b bs =>
   simp only [beqAL,Bool.and_eq_true] at h
   rw [AV.beq_eq a b h.1,zdf aS bs h.2]
end
theorem Cap.beq_eq (a b:Cap) (h:a.beq b=true):a=b:=by cases a<;>cases b<;>simp_all [Cap.beq]
theorem zh6 {τ τ':Ty} {l:List τ'.den} {r:List τ.den} (h:castSl τ' τ l=some r) (c:Cap):AV.sl τ r c=AV.sl τ' l c:=by
 unfold castSl at h
 split at h
 · rename_i hb
   obtain rfl:=Ty.beq_eq _ _ hb
   simp only [Option.some.injEq] at h
   subst h
   rfl
 · cases h
mutual
theorem SV.dec_enc:∀ (s:SV) (a:AV) (x:s.den),s.dec a=some x→s.enc x=a
 | .int k,a,x,h=>by
  simp only [SV.dec] at h
  split at h
  · rename_i k' n
    split at h
    · rename_i e; subst e; simp only [Option.some.injEq] at h; subst h; rfl
    · cases h
  · cases h
 | .bool,a,x,h=>by
  simp only [SV.dec] at h
  split at h
  · simp only [Option.some.injEq] at h; subst h; rfl
  · cases h
 | .str,a,x,h=>by
  simp only [SV.dec] at h
  split at h
  · simp only [Option.some.injEq] at h; subst h; rfl
  · cases h
 | .sl τ c,a,x,h=>by
  simp only [SV.dec] at h
  split at h
  · have h2:=(zb h).2
    have hc:=Cap.beq_eq _ _ (zb h).1
    simp only [SV.enc]
    rw [← hc]
    exact zh6 h2 _
  · cases h
 | .err,a,x,h=>by
  simp only [SV.dec] at h
  split at h
  · simp only [Option.some.injEq] at h; subst h; rfl
  · cases h
 | .const v,a,x,h=>by
  simp only [SV.dec] at h
  obtain ⟨hc,h⟩:=zb h
  simp only [SV.enc]
  exact AV.beq_eq _ _ hc
 | .agg vs,a,x,h=>by
  simp only [SV.dec] at h
  split at h
  · simp only [SV.enc]
    rw [zbj vs _ x h]
  · cases h
 | .fn f p q,a,x,h=>by
  simp only [SV.dec] at h
  split at h
  · have h1:=(zb h).1
    have h2:=(zb h).2
    split at h2
    · rename_i y hy
      split at h2
      · rename_i z hz
        simp only [Option.some.injEq] at h2
        subst h2
        simp only [SV.enc]
        rw [zbj p _ y hy,zbj q _ z hz,nbeq.1 h1]
      · cases h2
    · cases h2
  · cases h
 | .mp,a,x,h=>by
  simp only [SV.dec] at h
  split at h
  · simp only [Option.some.injEq] at h
    subst h
    rfl
  · cases h
 | .row τ,a,x,h=>by
  simp only [SV.dec] at h
  split at h
  · rename_i v τ' l
    split at h
    · rename_i l' hl
      simp only [Option.some.injEq] at h
      subst h
      simp only [SV.enc]
      unfold castSl at hl
      split at hl
      · rename_i hb
        obtain rfl:=Ty.beq_eq _ _ hb
        simp only [Option.some.injEq] at hl
        subst hl
        rfl
      · cases hl
    · cases h
  · cases h
 | .ms r τ,a,x,h=>by
  simp only [SV.dec] at h
  split at h
  · obtain ⟨h1,h2⟩:=zb h
    simp only [Bool.and_eq_true,nbeq] at h1
    obtain ⟨e1,e2⟩:=h1
    obtain rfl:=Ty.beq_eq _ _ e2
    simp only [Option.some.injEq] at h2
    subst h2 e1
    rfl
  · cases h
theorem zbj:∀ (vs:List SV) (cs:List AV) (x:sdenL vs),sdecL vs cs=some x→sencL vs x=cs
 | [],cs,x,h=>by
  simp only [sdecL] at h
  split at h
  · rfl
  · cases h
 | v :: vs,cs,x,h=>by
  simp only [sdecL] at h
  split at h
  · split at h
    · rename_i a ha
      split at h
      · rename_i b hb
        simp only [Option.some.injEq] at h
        subst h
        simp only [sencL]
        rw [SV.dec_enc v _ a ha,zbj vs _ b hb]
      · cases h
    · cases h
  · cases h
end
theorem zek:∀ (vs:List (Nat×SV)) (cs:Env) (x:sdenE vs),sdecE vs cs=some x→sencE vs x=cs
 | [],cs,x,h=>by
  simp only [sdecE] at h
  split at h
  · rfl
  · cases h
 | v :: vs,cs,x,h=>by
  simp only [sdecE] at h
  split at h
  · rename_i c e
    obtain ⟨hd,h⟩:=zb h
    simp only [nbeq] at hd
    split at h
    · rename_i a ha
      split at h
      · rename_i b hb
        simp only [Option.some.injEq] at h
        subst h
        simp only [sencE]
        rw [SV.dec_enc v.2 _ a ha,zek vs _ b hb,hd]
      · cases h
    · cases h
  · cases h
theorem zh7:∀ (vs:List (List SV)) (cs:List (List AV)) (x:sdenB vs),sdecB vs cs=some x→sencB vs x=cs
 | [],cs,x,h=>by
  simp only [sdecB] at h
  split at h
  · rfl
  · cases h
 | v :: vs,cs,x,h=>by
  simp only [sdecB] at h
  split at h
  · split at h
    · rename_i a ha
      split at h
      · rename_i b hb
        simp only [Option.some.injEq] at h
        subst h
        simp only [sencB]
        rw [zbj v _ a ha,zh7 vs _ b hb]
      · cases h
    · cases h
  · cases h
theorem zel:∀ (vs:List Bool) (cs:List (Option Nat)) (x:sdenT vs),sdecT vs cs=some x→sencT vs x=cs
 | [],cs,x,h=>by
  simp only [sdecT] at h
  split at h
  · rfl
  · cases h
 | true::vs,cs,x,h=>by
  simp only [sdecT] at h
  split at h
  · split at h
    · rename_i b hb
      simp only [Option.some.injEq] at h
      subst h
      simp only [sencT]
      rw [zel vs _ b hb]
    · cases h
  · cases h
 | false::vs,cs,x,h=>by
  simp only [sdecT] at h
  split at h
  · simp only [sencT]
    rw [zel vs _ x h]
  · cases h
theorem LS.beq_eq (a b:LS) (h:a.beq b=true):a=b:=by
 cases a with
 | ready=>cases b<;>simp_all [LS.beq]
 | busy=>cases b<;>simp_all [LS.beq]
 | done i =>
  cases b with
  | done j=>cases i<;>cases j<;>simp_all [LS.beq,nbeq]
  | _=>simp [LS.beq] at h
theorem zju:∀ a b:List LS,lsBeq a b=true→a=b
 | [],b,h=>by cases b<;>simp_all [lsBeq]
 | a :: aS,b,h=>by
  cases b with
  | nil=>simp [lsBeq] at h
  | cons b bs =>
   simp only [lsBeq,Bool.and_eq_true] at h
   rw [LS.beq_eq a b h.1,zju aS bs h.2]
theorem zh8:∀ (vs:List (Nat×Nat×Nat×List (Nat×SV))) (cs:Ys) (x:sdenY vs),sdecY vs cs=some x→sencY vs x=cs
 | [],cs,x,h=>by
  simp only [sdecY] at h
  split at h
  · rfl
  · cases h
 | v :: vs,cs,x,h=>by
  simp only [sdecY] at h
  split at h
  · rename_i c e
    obtain ⟨hd,h⟩:=zb h
    simp only [nbeq,Bool.and_eq_true] at hd
    split at h
    · rename_i a ha
      split at h
      · rename_i b hb
        simp only [Option.some.injEq] at h
        subst h
        simp only [sencY]
        rw [zek v.2.2.2 _ a ha,zh8 vs _ b hb,hd.1.1,hd.1.2,hd.2]
      · cases h
    · cases h
  · cases h
theorem Shape.dec_enc {s:Shape} {Y:Ys} {e:Env} {h:H} {x:s.den} (hd:s.dec Y e h=some x):s.e x=e∧s.h x=h∧s.y x=Y:=by
 unfold Shape.dec at hd
 split at hd
 · rename_i a ha
   split at hd
   · rename_i b hb
     split at hd
     · rename_i c hc
       obtain ⟨hl,hd⟩:=zb hd
       split at hd
       · rename_i d hy
         simp only [Option.some.injEq] at hd
         subst hd
         refine ⟨zek _ _ _ ha,?_,zh8 _ _ _ hy⟩
         simp only [Shape.h]
         rw [zh7 _ _ _ hb,zel _ _ _ hc,zju _ _ hl]
       · cases hd
     · cases hd
   · cases hd
 · cases hd
end Go.AM
set_option linter.unusedVariables false
set_option linter.unusedSimpArgs false
namespace Go.AM
open Go.RowKit
section
variable {P:Program} {w:World} {G:GS}
def Goes (P:Program) (g:FuncId) (vals:Array Value) (w:World) (R:Value→World→Prop):Prop:=
 ((callFunc g vals).run P w = .ok (.enter g vals) w∧CallsIn Fence.wide 0 P g vals w (fun | .returned v,w'=>R v w' | _,_=>False))∨∃ v w',(callFunc g vals).run P w = .ok (.value v) w'∧R v w'
theorem Goes.mono {g:FuncId} {vals:Array Value} {R S:Value→World→Prop} (h:Goes P g vals w R) (hRS:∀ v w',R v w'→S v w'):Goes P g vals w S:=by
 rcases h with ⟨h1,h2⟩ | ⟨v,w',h1,h2⟩
 · refine .inl ⟨h1,CallsIn.mono (F:=Fence.wide) (n:=0) h2 ?_⟩
   intro e w' hR
   cases e with
   | returned v=>exact hRS v w' hR
   | panicked ch=>exact hR.elim
   | outgrown=>exact hR.elim
 · exact .inr ⟨v,w',h1,hRS v w' h2⟩
def stopE (T:Nat) (p:Value):List PanicEntry:=[{ v:=.iface T (.agg #[p]),recovered:=false }]
def EndsC {X:Type} (B0:Nat) (w0:Wd) (G:GS) (w:World) (k:AV→H→Option X) (r:X):Ending→World→Prop
 | .returned v,w'=>Ends B0 w0 G w k r v w'
 | _,_=>False
def EndsT {X:Type} (B0:Nat) (w0:Wd) (T q:Nat) (G:GS) (w:World) (k:AV→H→Option X) (r:X):Ending→World→Prop
 | .returned v,w'=>Ends B0 w0 G w k r v w'
 | .panicked ch,w'=>∃ (b:Nat) (G':GS) (h':H),ch=stopE T (.pointer (some ⟨b,0,none⟩))∧(G.bx[q]? = some (some b)∨G.bx[q]? = some none)∧Ext G.base G G'∧Keep G.D w w'∧St B0 w0 G' h' w'∧k (.tup []) h'=some r
 | _,_=>False
def PrOK (P:Program) (W:World→Prop) (g:Nat):Pr→Prop
 | .bcheck T=>∀ (w:World) (b:Nat) (vs:Array Value),W w→w.heap[b]? = some (.cells vs T (0,0))→vs.size=2→(vs[0]? = some (.pointer none)∨vs[0]? = some (.pointer (some ⟨b,0,none⟩))) →
  Goes P g #[.pointer (some ⟨b,0,none⟩)] w fun v w'=>v = .tuple #[]∧(w'=w∨w.grownBy w' (some b)∧w'.heap[b]? = some (.cells (vs.setIfInBounds 0 (.pointer (some ⟨b,0,none⟩))) T (0,0)))
 | .bstring T E=>∀ (w:World) (b q cap:Nat) (vs cur:Array Value) (l:List UInt8),W w→l≠[]→l.length≤strMax→w.heap[b]? = some (.cells vs T (0,0))→vs.size=2→vs[1]? = some (.slice (some ⟨q,0,none⟩) l.length cap) →
  w.heap[q]? = some (.cells cur E (0,0))→l.length≤cap→cur.size=cap→cur.toList.take l.length=l.map (fun x=>Value.int .u8 (x.toNat:Int)) →
  Goes P g #[.pointer (some ⟨b,0,none⟩)] w fun v w'=>v = .string ⟨l.toArray⟩∧w.grownBy w' (some q)∧∀ o,w'.cell? ⟨q,o,none⟩=w.cell? ⟨q,o,none⟩
 | .sort τ f F=>(∀ (w:World) (q cap:Nat) (t:TypeId) (cs:Array Value) (l:List τ.den) (D:Nat→Nat→Prop),W w→w.heap[q]? = some (.cells cs t (0,0))→cs.size=cap*τ.size→l.length≤cap→l.length<strMax →
  RowOf (fun x us=>RepC w D τ x us) l (cs.toList.take (l.length*τ.size))→(∀ o,¬ D q o)→(∀ b o,D b o→∃ u,w.cell? ⟨b,o,none⟩=some u)→(F l).length=l.length →
  Goes P g #[.slice (some ⟨q,0,none⟩) l.length cap,.func (.func f) #[] #[]] w fun v w'=>v = .tuple #[]∧∃ cs',w.grownBy w' (some q)∧w'.heap[q]? = some (.cells cs' t (0,0))∧cs'.size=cs.size∧RowOf (fun x us=>RepC w D τ x us) (F l) (cs'.toList.take (l.length*τ.size))) ∧
  ∀ (w:World) (A:Option Addr),W w→Goes P g #[.slice A 0 0,.func (.func f) #[] #[]] w fun v w'=>v = .tuple #[]∧w.grownBy w' none
 | .fmts es=>∀ (w:World),W w→Goes P g #[] w fun v w'=>v = .map (some w.heap.size)∧∃ c,w'=w.alloc (.map (fmEnts es) c)
 | .rd F=>∀ (w:World) (G:GS) (b:Nat) (vs:Array Value) (t:TypeId) (cs as:List AV) (us:List Value) (v:AV),W w→w.heap[b]? = some (.cells vs t (0,0))→RepL w G vs.toList cs→RepL w G us as→F cs as=some v →
  Goes P g (.pointer (some ⟨b,0,none⟩)::us).toArray w fun x w'=>w.grownBy w' none∧RepV w' G x v
 | .must T=>∀ (w:World) (b:Nat) (vs:Array Value) (t:TypeId) (x y:Value) (c i:Int) (tr:Bool),W w→w.heap[b]? = some (.cells vs t (0,0))→vs.toList=[x,y,.int .i64 c,.int .i64 i,.bool tr] →
  (callFunc g #[.pointer (some ⟨b,0,none⟩)]).run P w = .ok (.enter g #[.pointer (some ⟨b,0,none⟩)]) w∧CallsIn Fence.wide 0 P g #[.pointer (some ⟨b,0,none⟩)] w fun e w'=>w'=w ∧
   e=(if (tr && !(c==0&&i==0))=true then .panicked (stopE T (.pointer (some ⟨b,0,none⟩))) else .returned (.tuple #[]))
 | .tryp T=>∀ (X:Type) (B0:Nat) (w0:Wd) (G:GS) (h:H) (w:World) (vals:Array Value) (l:List UInt8) (c:Cap) (f:Nat) (first cap:List AV) (k:AV→H→Option X) (r:X),(∀ w',Below B0 w0.w w'→W w')→l.length≤70368744177664→St B0 w0 G h w→RepL w G vals.toList [.sl .u8 l c,.fn f first cap] →
  (∀ (G1:GS) (w1:World) (vs:Array Value),Ext G.base G G1→Keep G.D w w1→St B0 w0 G1 { h with bx:=h.bx++tryBx h.bx.length l } w1→RepL w1 G1 vs.toList (first++[.ref (h.bx.length+3) 0]++cap) →
   (callFunc f vs).run P w1 = .ok (.enter f vs) w1∧CallsIn Fence.wide 0 P f vs w1 (EndsT B0 w0 T (h.bx.length+3) G1 w1 (fun _ h'=>tryEnd h.bx.length h' k) r)) →
  (callFunc g vals).run P w = .ok (.enter g vals) w∧CallsIn Fence.wide 0 P g vals w (EndsC B0 w0 G w k r)
theorem PrOK.mono {W W':World→Prop} (hw:∀ w,W' w→W w) {g:Nat} {p:Pr} (h:PrOK P W g p):PrOK P W' g p:=by
 cases p with
 | bcheck T=>exact fun w b vs h1=>h w b vs (hw w h1)
 | bstring T E=>exact fun w b q cap vs cur l h1=>h w b q cap vs cur l (hw w h1)
 | sort τ f F=>exact ⟨fun w q cap t cs l D h1=>h.1 w q cap t cs l D (hw w h1),fun w A h1=>h.2 w A (hw w h1)⟩
 | fmts es=>exact fun w h1=>h w (hw w h1)
 | rd F=>exact fun w G b vs t cs as us v h1=>h w G b vs t cs as us v (hw w h1)
 | must T=>exact fun w b vs t x y c i tr h1=>h w b vs t x y c i tr (hw w h1)
 | tryp T=>exact fun X B0 w0 G h' w vals l c f first cap k r h1=>h X B0 w0 G h' w vals l c f first cap k r (fun w' hb=>hw w' (h1 w' hb))
theorem zl8 {D:Nat→Nat→Prop} {E:Nat}:∀ {l:List UInt8} {us:List Value},RowOf (fun (x:UInt8) us=>RepC w D (.u8t E) x us) l us→us=l.map fun b => .int .u8 (b.toNat:Int)
 | [],us,h=>h
 | b::l,us,h=>by
  obtain ⟨v1,v2,rfl,h1,h2⟩:=h
  simp only [RepC] at h1
  rw [h1,zl8 h2]
  rfl
theorem zhi {B0:Nat} {w0:Wd} {h:H} (s:St B0 w0 G h w) {v:Value} {r:Nat} (hv:RepV w G v (.ref r 0)) {cs:List AV} (hc:h.bx[r]? = some cs) (hr:isRow cs=false) :
 ∃ b vs t,v = .pointer (some ⟨b,0,none⟩)∧G.bx[r]? = some (some b)∧B0≤b∧w.heap[b]? = some (.cells vs t (0,0))∧(G.bv r).v=0∧RepL w G vs.toList cs∧∀ T,tyOf cs=some T→t=T:=by
 cases hv with
 | ref _ _ b hb hv0 =>
  obtain ⟨hB,ob,hh,hO⟩:=s.box r b cs hb hc
  obtain ⟨vs,t,rfl,h0,hl,ht⟩:=hO.list hr
  exact ⟨b,vs,t,rfl,hb,hB,hh,h0,hl,ht⟩
theorem zop {X:Type} {B0:Nat} {w0:Wd} {h:H} (s:St B0 w0 G h w) {g:Nat} {p:Pr} (hP:PrOK P (Below B0 w0.w) g p) {args:List AV} {vals:Array Value} (hv:RepL w G vals.toList args) {k:AV→H→Option X} {r:X} (hk:prK p args h k=some r) :
 Goes P g vals w (Ends B0 w0 G w k r):=by
 unfold prK at hk
 split at hk
 ·
  rename_i T q
  obtain ⟨v,hvals,hq⟩:=hv.one
  have hvals':vals=#[v]:=Array.ext' (by simpa using hvals)
  subst hvals'
  split at hk
  · rename_i r' T' c2 hbx
    rw [zl] at hbx
    replace hk:=zb hk
    obtain ⟨hc,hk⟩:=hk
    simp only [Bool.and_eq_true,nbeq] at hc
    obtain ⟨rfl,rfl⟩:=hc
    obtain ⟨b,vs,t,rfl,hb,hB,hh,h0,hl,ht⟩:=zhi s hq hbx rfl
    have ht:=ht T rfl
    subst ht
    obtain ⟨u1,u2,hvs,hr1,hr2⟩:=hl.two
    have hsz:vs.size=2:=by rw [← Array.length_toList,hvs]; rfl
    have hv0:vs[0]? = some u1:=by rw [← Array.getElem?_toList,hvs]; rfl
    have hv1:vs[1]? = some u2:=by rw [← Array.getElem?_toList,hvs]; rfl
    have hu1:u1 = .pointer none∨u1 = .pointer (some ⟨b,0,none⟩):=by
     cases hr1 with
     | bcell _ _ b' _ hb' _ hp =>
      rw [hb] at hb'
      obtain rfl:=Option.some.inj (Option.some.inj hb')
      exact hp
    refine (hP w b vs s.below hh hsz (by rcases hu1 with e | e<;>rw [hv0,e]<;>simp)).mono ?_
    rintro v w' ⟨rfl,rfl | ⟨hg,hh'⟩⟩
    · exact Ends.same s (.tup #[] [] rfl (fun i v c h=>by simp at h)) hk
    · have hnl:(vs.setIfInBounds 0 (.pointer (some ⟨b,0,none⟩))).toList=[.pointer (some ⟨b,0,none⟩),u2]:=by rw [Array.toList_setIfInBounds,hvs]; rfl
      obtain ⟨hkp,hst⟩:=s.setBlk (ds:=[.bcell q t,c2]) hb hh hB (by simp) hg hh' (fun hkp=>by
       rw [hnl]
       have hx:Ext G.base G G:=Ext.refl (Base.le_refl _)
       have hL:RepL w' G [.pointer (some ⟨b,0,none⟩),u2] [.bcell q t,c2]:=.cons (.bcell q t b _ hb h0 (.inr rfl)) (.cons (hr2.mono hx hkp) .nil)
       exact .box _ _ hL.noRow h0 hL) (fun T' h=>by simp only [tyOf,Option.some.injEq] at h; exact h)
      have hset:upd h.bx q [.bcell q t,c2]=h.bx:=by
       rw [zk]
       apply List.ext_getElem?
       intro i
       rw [List.getElem?_set]
       by_cases hi:q=i
       · subst hi
         rw [if_pos rfl,hbx,if_pos (List.getElem?_eq_some_iff.1 hbx).1]
       · rw [if_neg hi]
      rw [hset] at hst
      exact ⟨_,G,h,Ext.refl (Base.le_refl _),hkp,hst,.tup #[] [] rfl (fun i v c h=>by simp at h),hk⟩
  · cases hk
 ·
  rename_i T E q
  obtain ⟨v,hvals,hq⟩:=hv.one
  have hvals':vals=#[v]:=Array.ext' (by simpa using hvals)
  subst hvals'
  split at hk
  · rename_i r' T' q' v' n' E' hbx
    rw [zl] at hbx
    replace hk:=zb hk
    obtain ⟨hc,hk⟩:=hk
    simp only [Bool.and_eq_true,nbeq] at hc
    obtain ⟨⟨rfl,rfl⟩,rfl⟩:=hc
    obtain ⟨l,hrow,hk,_⟩:=zv hk
    cases hl0:List.isEmpty l with
    | true=>rw [hl0] at hk; cases hk
    | false =>
    rw [hl0,cond_false] at hk
    have hne:l≠[]:=by intro e; rw [e] at hl0; cases hl0
    have hpos:0<l.length:=List.length_pos_iff.2 hne
    obtain ⟨b,vs,t,rfl,hb,hB,hh,h0,hl,ht⟩:=zhi s hq hbx rfl
    have ht:=ht T rfl
    subst ht
    obtain ⟨u1,u2,hvs,hr1,hr2⟩:=hl.two
    have hsz:vs.size=2:=by rw [← Array.length_toList,hvs]; rfl
    have hv1:vs[1]? = some u2:=by rw [← Array.getElem?_toList,hvs]; rfl
    obtain ⟨qq,cap,R⟩:=s.rowAt hrow (zcv hr2)
    obtain ⟨e1,A,e2,hA⟩:=R.ms hr2
    rcases R.wh with ⟨_,e,_⟩ | ⟨bq,cur,tq,e,hBq,hhq,hcs,hrows⟩
    · exact absurd e hne
    have htq:tq=E:=by
     have:=R.tg bq cur tq e hhq
     simp only [tagOK] at this
     exact (Nat.eq_of_beq_eq_true this).symm
    subst htq
    have hAe:=hA bq e
    subst hAe
    have hcs':cur.size=cap:=by rw [hcs]; exact Nat.mul_one cap
    have htake:cur.toList.take l.length=l.map (fun (x:UInt8)=>Value.int .u8 (x.toNat:Int)):=by
     have:=zl8 hrows
     rw [show l.length*(Ty.u8t tq).size=l.length from Nat.mul_one _] at this
     exact this
    refine (hP w b bq cap vs cur l s.below hne R.lm hh hsz (by rw [hv1,e2]) hhq R.lc hcs' htake).mono ?_
    rintro v w' ⟨rfl,hg,hcell⟩
    obtain ⟨G1,x1,s1,_,hG1,hT1⟩:=s.freeze hrow hr2
    have hqG:G.bx[q']? = some (some bq):=by rw [R.hb,e]
    have hql:=(List.getElem?_eq_some_iff.1 hqG).1
    have hn1:some bq∉G1.bx:=fun hm=>by
     obtain ⟨i,hi⟩:=List.getElem?_of_mem hm
     rw [hG1,List.getElem?_set] at hi
     split at hi
     · simp [hql] at hi
     · rename_i hne'
       exact hne' (s.inj q' i bq hqG hi)
    obtain ⟨hkp,s2⟩:=s1.other hg hBq (fun o _=>hcell o) ⟨_,_,_,hhq⟩ hn1 (fun t g0 h0 hlt hAe=>by
     rw [hT1] at h0
     obtain ⟨b',hA',_,hn,_⟩:=(s.tok t g0 h0).2 hlt
     rw [hAe] at hA'
     obtain rfl:=Option.some.inj hA'
     exact hn (List.mem_of_getElem? hqG))
    exact ⟨_,G1,_,x1,fun b o hd=>hkp b o (x1.D b o hd),s2,.str _ l (by simp) R.lm,hk⟩
  · cases hk
 ·
  rename_i τ f F q v n τ' f'
  replace hk:=zb hk
  obtain ⟨hc,hk⟩:=hk
  simp only [Bool.and_eq_true,nbeq] at hc
  obtain ⟨he,rfl⟩:=hc
  obtain rfl:=Ty.beq_eq _ _ he
  obtain ⟨l,hrow,hk,_⟩:=zv hk
  obtain ⟨hc,hk⟩:=zb hk
  simp only [Bool.and_eq_true,nbeq,nblt] at hc
  obtain ⟨hc,hlt⟩:=hc
  obtain ⟨u1,u2,hvals,hx,hf⟩:=hv.two
  have hvals':vals=#[u1,u2]:=Array.ext' (by simpa using hvals)
  subst hvals'
  have hu2:u2 = .func (.func f) #[] #[]:=by
   cases hf with
   | fn _ x y _ _ hx0 _ hy0 _ =>
    have e1:x=#[]:=Array.eq_empty_of_size_eq_zero (by simpa using hx0)
    have e2:y=#[]:=Array.eq_empty_of_size_eq_zero (by simpa using hy0)
    rw [e1,e2]
  subst hu2
  obtain ⟨qq,cap,R⟩:=s.rowAt hrow (zcv hx)
  obtain ⟨e1,A,rfl,hA⟩:=R.ms hx
  rcases R.wh with ⟨e,e2,e3⟩ | ⟨bq,cur,tq,e,hBq,hhq,hcs,hrows⟩
  · subst e2 e3
    refine (hP.2 w A s.below).mono ?_
    rintro v' w' ⟨rfl,hg⟩
    have hF:F []=[]:=List.eq_nil_of_length_eq_zero hc
    rw [hF] at hk
    have hset:upd h.bx q [.row v τ []]=h.bx:=by
     rw [zk]
     apply List.ext_getElem?
     intro i
     rw [List.getElem?_set]
     by_cases hi:q=i
     · subst hi
       rw [if_pos rfl,hrow,if_pos (List.getElem?_eq_some_iff.1 hrow).1]
     · rw [if_neg hi]
    rw [hset] at hk
    exact ⟨_,G,h,Ext.refl (Base.le_refl _),Keep.of_grown hg (fun b o x=>(s.dat b o x).1) (fun _ _ _=>by simp),s.grown0 hg,.tup #[] [] rfl (fun i v c h=>by simp at h),hk⟩
  · have hqG:G.bx[q]? = some (some bq):=by rw [R.hb,e]
    have hAe:=hA bq e
    subst hAe
    refine (hP.1 w bq cap tq cur l G.D s.below hhq hcs R.lc hlt hrows (fun o hd=>(s.dat bq o hd).2 (List.mem_of_getElem? hqG)) (fun b o hd=>(s.dat b o hd).1) hc).mono ?_
    rintro v' w' ⟨rfl,cs',hg,hh',hs',hr'⟩
    obtain ⟨hkp,hst⟩:=s.setBlk (ds:=[.row v τ (F l)]) hqG hhq hBq hs' hg hh' (fun hkp=>by
     refine .row _ v τ (F l) cap R.v0 (by rw [hc]; exact R.hv) R.z0 (by rw [hc]; exact R.lc) (by rw [hc]; exact R.lm) (by rw [Array.length_toList,hs',hcs]) ?_ (fun e=>by rw [hc]; exact R.v1 e)
     rw [hc]
     exact RowOf.mono _ _ (fun x _ us hx=>RepC.mono (fun _ _ hd=>hd) hkp τ x us hx) hr') (zbq (R.tg bq cur tq e hhq))
    exact ⟨_,G,_,Ext.refl (Base.le_refl _),hkp,hst,.tup #[] [] rfl (fun i v c h=>by simp at h),hk⟩
 ·
  rename_i F q as
  split at hk
  · rename_i cs hcs
    rw [zl] at hcs
    cases hir:isRow cs with
    | true=>rw [hir] at hk; cases hk
    | false =>
     rw [hir,cond_false] at hk
     split at hk
     · rename_i v hv2
       obtain ⟨x,us,hvals⟩:∃ x us,vals.toList=x::us:=by
        cases hl0:vals.toList with
        | nil=>rw [hl0] at hv; exact absurd hv.1 (by simp)
        | cons x us=>exact ⟨x,us,rfl⟩
       rw [hvals] at hv
       obtain ⟨hx,hus⟩:=hv.tail
       obtain ⟨b,vs,t,rfl,hb,hB,hh,h0,hl,ht⟩:=zhi s hx hcs hir
       have hvals':vals=(.pointer (some ⟨b,0,none⟩)::us).toArray:=Array.ext' (by simpa using hvals)
       subst hvals'
       refine (hP w G b vs t cs as us v s.below hh hl hus hv2).mono ?_
       rintro y w' ⟨hg,hy⟩
       exact ⟨_,G,h,Ext.refl (Base.le_refl _),Keep.of_grown hg (fun b o x=>(s.dat b o x).1) (fun _ _ _=>by simp),s.grown0 hg,hy,hk⟩
     · cases hk
  · cases hk
 ·
  rename_i es
  have hvals':vals=#[]:=Array.ext' (by have:=hv.1; simp at this; simpa using this)
  subst hvals'
  refine (hP w s.below).mono ?_
  rintro v w' ⟨rfl,c,rfl⟩
  obtain ⟨G',g1,g2,g3,g4,g5,_⟩:=s.addObj (ob:=.map (fmEnts es) c) (cs:=[.fmp es]) ⟨0,0,0,0⟩ (fun G' hx hg hb hk' => .fm es c (by rw [hg]))
  exact ⟨_,G',_,g1,g2,g3,.mref _ _ g4 (by rw [g5]),hk⟩
 · cases hk
end
end Go.AM
set_option linter.unusedVariables false
set_option linter.unusedSimpArgs false
namespace Go.AM
open Go.RowKit
section
variable {P:Program} {w:World} {G:GS}
def OrcPost (D:Nat→Nat→Prop) (w:World) (a:AV) (v:Value) (w':World):Prop:=
 ∃ G':GS,G'.df=[]∧(∀ b o,D b o→G'.D b o)∧St w.heap.size ⟨w,D⟩ G' ⟨[],(mat [] a).2,[]⟩ w'∧RepV w' G' v (mat [] a).1
def OrcOK (P:Program) (W:World→Prop) (g:FuncId) (orc:List AV→Option Entry):Prop:=
 ∀ (args:List AV) (en:Entry) (y:en.Y),orc args=some en→en.o=some y→∀ (w:World) (D:Nat→Nat→Prop) (vals:Array Value),W w→RepL w ⟨D,[],[],[],[],bv0⟩ vals.toList args→(∀ b o,D b o→∃ u,w.cell? ⟨b,o,none⟩=some u) →
  Goes P g vals w (OrcPost D w (en.enc y))
theorem zbs {n:Nat}:∀ {cs:List AV} {i:Nat} {c:AV},(shL n cs)[i]? = some c→∃ d,cs[i]? = some d∧c=shA n d
 | [],i,c,h=>by simp [shL] at h
 | d::ds,0,c,h=>by simp only [shL,List.getElem?_cons_zero,Option.some.injEq] at h; exact ⟨d,rfl,h.symm⟩
 | d::ds,i+1,c,h=>by simp only [shL,List.getElem?_cons_succ] at h ⊢; exact zbs h
theorem zay {n:Nat}:∀ {cs:List AV},(shL n cs).length=cs.length
 | []=>rfl
 | d::ds=>by simp [shL,zay (cs:=ds)]
theorem ztn {G1:GS} {L:List (Option Tk)} (hD:G1.D=G.D) (hb:G.bx=[]) (hl:G.lp=[]) (ht:G1.tk=L++G.tk) {v:Value} {a:AV} (h:RepV w G v a):RepV w G1 v (shA L.length a):=by
 induction h with
 | any v=>exact .any v
 | bool b=>exact .bool b
 | int k n h=>exact .int k n h
 | str s l h hl=>exact .str s l h hl
 | sl τ l c v h hc =>
  rw [← hD] at h
  cases c with
  | full=>exact .sl _ _ _ _ h hc
  | unk=>exact .sl _ _ _ _ h trivial
  | fresh=>exact .sl _ _ _ _ h trivial
  | own t =>
   obtain ⟨o,h1,h2⟩:=hc
   exact .sl _ _ _ _ h ⟨o,by rw [ht,List.getElem?_append_right (by omega),show L.length+t - L.length=t from by omega]; exact h1,h2⟩
 | nils=>exact .nils
 | agg vs cs hl _ ih =>
  simp only [shA]
  refine .agg vs _ (by rw [zay]; exact hl) fun i v c hv hc => ?_
  obtain ⟨d,hd,rfl⟩:=zbs hc
  exact ih i v d hv hd
 | tup vs cs hl _ ih =>
  simp only [shA]
  refine .tup vs _ (by rw [zay]; exact hl) fun i v c hv hc => ?_
  obtain ⟨d,hd,rfl⟩:=zbs hc
  exact ih i v d hv hd
 | nilp=>exact .nilp
 | ref r off b h hv=>rw [hb] at h; simp at h
 | ms r v n τ x h0 hs h =>
  obtain ⟨b,h,_⟩:=h
  rw [hb] at h; simp at h
 | ep r v i off τ x h0 hs h =>
  obtain ⟨b,h,_⟩:=h
  rw [hb] at h; simp at h
 | imm b o us cs hl hm _ ih =>
  simp only [shA]
  refine .imm b o us _ (by rw [zay]; exact hl) (by rw [hD]; exact hm) fun i v c hv hc => ?_
  obtain ⟨d,hd,rfl⟩:=zbs hc
  exact ih i v d hv hd
 | imms n b o c us cs h0 hc hl hm _ ih =>
  simp only [shA]
  refine .imms n b o c us _ h0 hc (by rw [zay]; exact hl) (by rw [hD]; exact hm) fun i v c hv hc => ?_
  obtain ⟨d,hd,rfl⟩:=zbs hc
  exact ih i v d hv hd
 | bcell r T b v h hv hp=>rw [hb] at h; simp at h
 | mref r b h hv=>rw [hb] at h; simp at h
 | nilfn=>exact .nilfn
 | fn f x y a b hx _ hy _ i1 i2 =>
  simp only [shA]
  refine .fn f x y _ _ (by rw [zay]; exact hx) (fun i v c hv hc => ?_) (by rw [zay]; exact hy) fun i v c hv hc => ?_
  · obtain ⟨d,hd,rfl⟩:=zbs hc
    exact i1 i v d hv hd
  · obtain ⟨d,hd,rfl⟩:=zbs hc
    exact i2 i v d hv hd
 | yield j p h=>rw [hl] at h; simp at h
 | err0=>exact .err0
 | err1 t x=>exact .err1 t x
theorem zf4 {X:Type} {B0:Nat} {w0:Wd} {h:H} (s:St B0 w0 G h w) {a:AV} {v:Value} {w':World} (hp:OrcPost G.D w a v w') {k:AV→H→Option X} {r:X}
 (hk:k (shA h.tk.length (mat [] a).1) { h with tk:=h.tk++(mat [] a).2 }=some r):Ends B0 w0 G w k r v w':=by
 obtain ⟨G1,hdf,hD1,s1,hv⟩:=hp
 have hD2:∀ b o,G1.D b o→G.D b o∨w.heap.size≤b:=s1.dat0
 have hb1:G1.bx=[]:=List.eq_nil_of_length_eq_zero (by rw [← s1.bxl]; rfl)
 have hl1:G1.lp=[]:=List.eq_nil_of_length_eq_zero (by rw [← s1.lpl]; rfl)
 have hblk:∀ (b:Nat) (o:Obj),w.heap[b]? = some o→w'.heap[b]? = some o:=fun b o ho=>(s1.below.block b (Array.getElem?_eq_some_iff.1 ho).1).trans ho
 have hlt:∀ (b:Nat) (o:Obj),w.heap[b]? = some o→b<w.heap.size:=fun b o ho=>(Array.getElem?_eq_some_iff.1 ho).1
 have hcell:∀ (b o:Nat) (u:Value),w.cell? ⟨b,o,none⟩=some u→b<w.heap.size:=fun b o u hu=>World.block_lt_of_cell? w _ hu
 have hk0:Keep G.D w w':=fun b o x=>by
  obtain ⟨u,hu⟩:=(s.dat b o x).1
  exact s1.below.cell (p:=⟨b,o,none⟩) (hcell b o u hu)
 have hbx:∀ (q b:Nat),G.bx[q]? = some (some b)→b<w.heap.size:=fun q b hq=>by
  have hq':q<h.bx.length:=by rw [s.bxl]; exact (List.getElem?_eq_some_iff.1 hq).1
  obtain ⟨_,_,hh,_⟩:=s.box q b _ hq (List.getElem?_eq_getElem hq')
  exact hlt b _ hh
 let G2:GS:={ D:=G1.D,bx:=G.bx,tk:=G.tk++G1.tk,lp:=G.lp,df:=G.df,bv:=G.bv }
 have hx:Ext G.base G G2:=
  { D := hD1
    bx:=fun _ _ => .inl ⟨rfl,rfl⟩
    tk:=fun t ht=>by
     have ht':t<G.tk.length:=ht
     exact ⟨G.tk[t],G.tk[t],by simp [ht'],by simp [G2,List.getElem?_append_left ht'],.inr (.inl rfl)⟩
    lp:=fun _ _=>rfl
    df:=rfl }
 have hlen:h.tk.length=G.tk.length:=by rw [s.tkl]; simp
 refine ⟨_,G2,_,hx,hk0,?_,ztn (G:=G1) (G1:=G2) (L:=G.tk) rfl hb1 hl1 rfl hv,by rw [hlen] at hk; exact hk⟩
 have old:∀ (t:Nat) (g:Tk),G.tk[t]? = some (some g)→g.n<g.cap→∀ b,g.A=some b→b<w.heap.size:=fun t g ht hl b hA=>by
  obtain ⟨b',hA',_,_,_,_,_,hh,_⟩:=(s.tok t g ht).2 hl
  rw [hA] at hA'
  obtain rfl:=Option.some.inj hA'
  exact hlt _ _ hh
 have new:∀ (t:Nat) (g:Tk),G1.tk[t]? = some (some g)→g.n<g.cap→∀ b,g.A=some b→w.heap.size≤b:=fun t g ht hl b hA=>by
  obtain ⟨b',hA',hB,_⟩:=(s1.tok t g ht).2 hl
  rw [hA] at hA'
  obtain rfl:=Option.some.inj hA'
  exact hB
 have split:∀ (t:Nat) (g:Tk),(G.tk++G1.tk)[t]? = some (some g)→(t<G.tk.length∧G.tk[t]? = some (some g))∨(G.tk.length≤t∧G1.tk[t - G.tk.length]? = some (some g)):=fun t g ht=>by
  by_cases h1:t<G.tk.length
  · rw [List.getElem?_append_left h1] at ht; exact .inl ⟨h1,ht⟩
  · rw [List.getElem?_append_right (by omega)] at ht; exact .inr ⟨by omega,ht⟩
 exact
 { below := s.below.trans (s1.below.mono s.b0)
   b0:=Nat.le_trans s.b0 s1.below.size
   bxl:=s.bxl
   box:=fun q b cs h1 h2=>by
    obtain ⟨hB,ob,hh,hr⟩:=s.box q b cs h1 h2
    exact ⟨hB,ob,hblk _ _ hh,hr.keep hx hk0 rfl⟩
   virt:=s.virt
   inj:=s.inj
   dat := fun b o hbo=>by
    refine ⟨(s1.dat b o hbo).1,fun hm => ?_⟩
    obtain ⟨q,hq⟩:=List.getElem?_of_mem hm
    rcases hD2 b o hbo with hd | hd
    · exact (s.dat b o hd).2 hm
    · have:=hbx q b hq
      omega
   dat0:=fun b o hbo=>(hD2 b o hbo).elim (s.dat0 b o) fun hh => .inr (Nat.le_trans s.b0 hh)
   tkl:=by
    simp only [G2]
    rw [List.map_append,← s.tkl,← s1.tkl]
   tok := fun t g ht=>by
    rcases split t g ht with ⟨_,h1⟩ | ⟨_,h1⟩
    · obtain ⟨h2,h3⟩:=s.tok t g h1
      refine ⟨h2,fun hl => ?_⟩
      obtain ⟨b,hA,hB,hn,cs,et,fr,hh,hc,hi⟩:=h3 hl
      refine ⟨b,hA,hB,hn,cs,et,fr,hblk _ _ hh,hc,fun i i1 i2=>⟨fun hd => ?_,?_⟩⟩
      · rcases hD2 b i hd with hd | hd
        · exact (hi i i1 i2).1 hd
        · have:=hlt _ _ hh
          omega
      · rw [s1.below.frozen (p:=⟨b,i,none⟩) (hlt _ _ hh)]
        exact (hi i i1 i2).2
    · obtain ⟨h2,h3⟩:=s1.tok _ g h1
      refine ⟨h2,fun hl => ?_⟩
      obtain ⟨b,hA,hB,hn,cs,et,fr,hh,hc,hi⟩:=h3 hl
      refine ⟨b,hA,Nat.le_trans s.b0 hB,fun hm => ?_,cs,et,fr,hh,hc,hi⟩
      obtain ⟨q,hq⟩:=List.getElem?_of_mem hm
      have:=hbx q b hq
      omega
   tki := fun t t' g g' h1 h2 hne l1 l2=>by
    have cross:∀ (t t':Nat) (g g':Tk),G.tk[t]? = some (some g)→G1.tk[t']? = some (some g')→g.n<g.cap→g'.n<g'.cap→g.A≠g'.A:=fun t t' g g' k1 k2 l1 l2 e=>by
     obtain ⟨b,hA,_⟩:=(s.tok t g k1).2 l1
     have a1:=old t g k1 l1 b hA
     have a2:=new t' g' k2 l2 b (by rw [← e]; exact hA)
     omega
    rcases split t g h1 with ⟨e1,k1⟩ | ⟨e1,k1⟩<;>rcases split t' g' h2 with ⟨e2,k2⟩ | ⟨e2,k2⟩
    · exact s.tki t t' g g' k1 k2 hne l1 l2
    · exact cross _ _ _ _ k1 k2 l1 l2
    · exact fun e=>cross _ _ _ _ k2 k1 l2 l1 e.symm
    · exact s1.tki _ _ g g' k1 k2 (by omega) l1 l2
   lpl:=s.lpl
   loop:=fun j p st h1 h2=>by
    obtain ⟨hB,rec,hh,hr⟩:=s.loop j p st h1 h2
    exact ⟨hB,rec,hblk _ _ hh,hr⟩
   lpi:=s.lpi
   dfr:=fun d hd=>⟨(s.dfr d hd).1,hblk _ _ (s.dfr d hd).2⟩
   dfn:=s.dfn }
theorem zhj:∀ {cs:List AV} {i:Nat} {c:AV},(dcL cs)[i]? = some c→∃ d,cs[i]? = some d∧c=dc d
 | [],i,c,h=>by simp [dcL] at h
 | d::ds,0,c,h=>by simp only [dcL,List.getElem?_cons_zero,Option.some.injEq] at h; exact ⟨d,rfl,h.symm⟩
 | d::ds,i+1,c,h=>by simp only [dcL,List.getElem?_cons_succ] at h ⊢; exact zhj h
theorem zdg:∀ {cs:List AV},(dcL cs).length=cs.length
 | []=>rfl
 | d::ds=>by simp [dcL,zdg (cs:=ds)]
theorem zem:∀ {cs:List AV} {i:Nat} {c:AV},dataL cs=true→cs[i]? = some c→dataA c=true
 | [],i,c,_,h=>by simp at h
 | d::ds,0,c,h,hc=>by
  simp only [dataL,Bool.and_eq_true] at h
  simp at hc; subst hc; exact h.1
 | d::ds,i+1,c,h,hc=>by
  simp only [dataL,Bool.and_eq_true] at h
  exact zem h.2 (by simpa using hc)
theorem zq0 {G1:GS} (hD:G1.D=G.D) {v:Value} {a:AV} (h:RepV w G v a):dataA a=true→RepV w G1 v (dc a):=by
 induction h with
 | bool b=>intro _; exact .bool b
 | int k n h=>intro _; exact .int k n h
 | str s l h hl=>intro _; exact .str s l h hl
 | sl τ l c v h hc=>intro _; exact .sl _ _ _ _ (by rw [hD]; exact h) trivial
 | nils=>intro _; exact .nils
 | agg vs cs hl _ ih =>
  intro hd
  simp only [dataA] at hd
  simp only [dc]
  refine .agg vs _ (by rw [zdg]; exact hl) fun i v c hv hc => ?_
  obtain ⟨d,hd',rfl⟩:=zhj hc
  exact ih i v d hv hd' (zem hd hd')
 | err0=>intro _; exact .err0
 | err1 t x=>intro _; exact .err1 t x
 | _=>intro hd; cases hd
theorem zoq {G1:GS} (hD:G1.D=G.D) {vs:List Value} {cs:List AV} (h:RepL w G vs cs) (hd:dataL cs=true):RepL w G1 vs (dcL cs):=
 ⟨by rw [zdg]; exact h.1,fun i v c hv hc=>by
  obtain ⟨d,hd',rfl⟩:=zhj hc
  exact zq0 hD (h.2 i v d hv hd') (zem hd hd')⟩
def FW (ρ:Option Nat):Fence:={ Fence.wide with round:=ρ }
def HdOK {X:Type} (cx:Cx X) (G:GS) (w:World) (p:LpG) (hd:HD):Prop:=
 ∃ N lv ps aS b,cx.rfs hd.g hd.i=some (N,lv,ps,aS,b)∧p.st.params.toList=ps∧p.st.assign=aS∧p.st.body=b∧EnvR w G N p.st.tmps hd.e
def YOK {X:Type} (cx:Cx X) (Y:Ys) (G:GS) (w:World):Prop:=∀ (j:Nat) (hd:HD),lookY Y j=some hd→∃ p,G.lp[j]? = some p∧HdOK cx G w p hd
structure OpenOK {X:Type} (P:Program) (B0:Nat) (w0:Wd) (cx:Cx X) (O:Open X):Prop where
 call:∀ (g:Nat) (args:List AV) (Y:Ys) (h:H) (k:AV→H→Option X) (r:X),O (.call g args) Y h k=some r→∀ (G:GS) (w:World) (vals:Array Value),St B0 w0 G h w→YOK cx Y G w→RepL w G vals.toList args →
  (callFunc g vals).run P w = .ok (.enter g vals) w∧CallsIn Fence.wide 0 P g vals w (EndsC B0 w0 G w k r)
 round:∀ (j:Nat) (hd:HD) (args:List AV) (Y:Ys) (h:H) (k:AV→H→Option X) (r:X),O (.round j hd args) Y h k=some r→∀ (G:GS) (w:World) (vals:Array Value) (p:LpG) (rec:Loop),St B0 w0 G h w→YOK cx Y G w →
  RepL w G vals.toList args→G.lp[j]? = some p→HdOK cx G w p hd→w.heap[p.l]? = some (.loop rec)→sameLoop rec p.st →
  vals.size=rec.params.size∧∀ fn,RoundIn Fence.wide 0 P p.l fn ((rec.params.zip vals).foldl (fun tmps (t,a)=>tmps.setIfInBounds t a) rec.tmps) rec.assign rec.body w (EndsC B0 w0 G w k r)
 tryc:∀ (T q g:Nat) (args:List AV) (Y:Ys) (h:H) (k:AV→H→Option X) (r:X),O (.tryc T q g args) Y h k=some r→∀ (G:GS) (w:World) (vals:Array Value),St B0 w0 G h w→YOK cx Y G w→RepL w G vals.toList args →
  (callFunc g vals).run P w = .ok (.enter g vals) w∧CallsIn Fence.wide 0 P g vals w (EndsT B0 w0 T q G w k r)
theorem zvc {X:Type} {cx:Cx X} {Y:Ys} {G G':GS} {w w':World} (h:YOK cx Y G w) (hx:Ext G.base G G') (hk:Keep G.D w w'):YOK cx Y G' w':=fun j hd hl=>by
 obtain ⟨p,h1,N,lv,ps,aS,b,h2,h3,h4,h5,h6⟩:=h j hd hl
 exact ⟨p,(hx.lp j (List.getElem?_eq_some_iff.1 h1).1).trans h1,N,lv,ps,aS,b,h2,h3,h4,h5,h6.mono hx hk⟩
theorem zm4 {X:Type} {cx:Cx X} {O:Open X} {Y:Ys} {B0:Nat} {w0:Wd} (hO:OpenOK P B0 w0 cx O) {h:H} (s:St B0 w0 G h w) (hY:YOK cx Y G w) {g T:Nat} (hp:PrOK P (Below B0 w0.w) g (.tryp T)) {vals:Array Value} {args:List AV} (ha:RepL w G vals.toList args) {k:AV→H→Option X} {r:X}
 (hk:tryA O Y T args h k=some r):(callFunc g vals).run P w = .ok (.enter g vals) w∧CallsIn Fence.wide 0 P g vals w (EndsC B0 w0 G w k r):=by
 unfold tryA at hk
 split at hk
 · rename_i l c f first cap
   obtain ⟨hc,hk⟩:=zb hk
   simp only [Bool.and_eq_true,nble] at hc
   refine hp X B0 w0 G h w vals l c f first cap k r (fun _ h=>h) hc.2 s ha fun G1 w1 vs hx hkp st hvs => ?_
   exact hO.tryc T _ f _ Y _ _ r hk G1 w1 vs st (zvc hY hx hkp) hvs
 · cases hk
theorem zfk {X:Type} {cx:Cx X} {O:Open X} {Y:Ys} {B0:Nat} {w0:Wd} (hC:(∀ g orc,cx.C g=some orc→OrcOK P (Below B0 w0.w) g orc)∧∀ g p,cx.pr g=some p→PrOK P (Below B0 w0.w) g p) (hO:OpenOK P B0 w0 cx O) {h:H} (s:St B0 w0 G h w) (hY:YOK cx Y G w) {ρ:Option Nat} {o:Oper} {c:Call} {f:Operand}
 (ho:o.op = .call c) (hf:c.callee = .value f) {a:Act} {fa:AV} {aS:List AV} (hfa:RepV w G (a.eval f) fa) (has:RepL w G (c.args.map a.eval).toList aS) {k:AV→H→Option X} {r:X} (hk:callA cx O Y fa aS h k=some r)
 {next:Act→World→Prop} {Q:Exit→Act→World→Prop} (hn:∀ v w',Ends B0 w0 G w k r v w'→next (a.put o.dst v) w'):o.uponIn (FW ρ) 0 P a next Q ((execOp a.eval o).run P w):=by
 have hdp:(FW ρ).depth.isSome=true→1≤0:=by intro h; cases h
 have hrun:(execOp a.eval o).run P w=(do let d ← Deferred.ofValue (a.eval f) (c.args.map a.eval); invoke d.target d.args:Sem Next).run P w:=by
  simp only [execOp,ho,resolve,hf]
 rw [hrun]
 unfold callA at hk
 split at hk
 · rename_i g first cap
   generalize a.eval f=fv at hfa
   cases hfa with
   | fn _ x y _ _ hx h1 hy h2 =>
    have hvals:RepL w G (x++c.args.map a.eval++y).toList (first++aS++cap):=by
     rw [Array.toList_append,Array.toList_append]
     exact (RepL.append ⟨by simpa using hx,fun i v c hv hc=>h1 i v c (by simpa using hv) hc⟩ has).append ⟨by simpa using hy,fun i v c hv hc=>h2 i v c (by simpa using hv) hc⟩
    have hr2:(do let d ← Deferred.ofValue (.func (.func g) x y) (c.args.map a.eval); invoke d.target d.args:Sem Next).run P w=(callFunc g (x++c.args.map a.eval++y)).run P w:=by
     simp [Deferred.ofValue,invoke]
    rw [hr2]
    split at hk
    · rename_i p hp
      by_cases htp:∃ T,p = .tryp T
      · obtain ⟨T,rfl⟩:=htp
        have hk:tryA O Y T (first++aS++cap) h k=some r:=hk
        obtain ⟨h1,h2⟩:=zm4 hO s hY (hC.2 g _ hp) hvals hk
        rw [h1,Oper.uponIn_enter]
        refine ⟨hdp,CallsIn.mono (F:=FW ρ) (n:=0) h2 ?_⟩
        intro e w' hR
        cases e with
        | returned v=>exact hn v w' hR
        | panicked ch=>exact hR.elim
        | outgrown=>exact hR.elim
      have hk:prK p (first++aS++cap) h k=some r:=by
       cases p with
       | tryp T=>exact absurd ⟨T,rfl⟩ htp
       | _=>exact hk
      rcases zop s (hC.2 g p hp) hvals hk with ⟨h1,h2⟩ | ⟨v,w',h1,h2⟩
      · rw [h1,Oper.uponIn_enter]
        refine ⟨hdp,CallsIn.mono (F:=FW ρ) (n:=0) h2 ?_⟩
        intro e w' hR
        cases e with
        | returned v=>exact hn v w' hR
        | panicked ch=>exact hR.elim
        | outgrown=>exact hR.elim
      · rw [h1,Oper.uponIn_value]
        exact hn v w' h2
    split at hk
    · rename_i orc horc
      obtain ⟨hd,hk⟩:=zb hk
      split at hk
      · rename_i en hen
        cases hy':en.o with
        | none=>rw [hy'] at hk; simp at hk
        | some yy =>
         rw [hy'] at hk
         simp only [Option.bind_some] at hk
         have hg:=hC.1 g orc horc _ en yy hen hy' w G.D _ s.below (zoq (G:=G) (G1:=⟨G.D,[],[],[],[],bv0⟩) rfl hvals hd) (fun b o x=>(s.dat b o x).1)
         rcases hg with ⟨h1,h2⟩ | ⟨v,w',h1,h2⟩
         · rw [h1,Oper.uponIn_enter]
           refine ⟨hdp,CallsIn.mono (F:=FW ρ) (n:=0) h2 ?_⟩
           intro e w' hR
           cases e with
           | returned v=>exact hn v w' (zf4 s hR hk)
           | panicked ch=>exact hR.elim
           | outgrown=>exact hR.elim
         · rw [h1,Oper.uponIn_value]
           exact hn v w' (zf4 s h2 hk)
      · cases hk
    · obtain ⟨h1,h2⟩:=hO.call g _ Y h k r hk G w _ s hY hvals
      rw [h1,Oper.uponIn_enter]
      refine ⟨hdp,CallsIn.mono (F:=FW ρ) (n:=0) h2 ?_⟩
      intro e w' hR
      cases e with
      | returned v=>exact hn v w' hR
      | panicked ch=>exact hR.elim
      | outgrown=>exact hR.elim
 · rename_i j
   generalize a.eval f=fv at hfa
   cases hfa with
   | yield _ p hp =>
    split at hk
    · rename_i hd hhd
      obtain ⟨p',hp',hok⟩:=hY j hd hhd
      rw [hp] at hp'
      obtain rfl:=Option.some.inj hp'
      have hj:j<h.lp.length:=by rw [s.lpl]; exact (List.getElem?_eq_some_iff.1 hp).1
      obtain ⟨_,rec,hrec,hsame,_⟩:=s.loop j p _ hp (List.getElem?_eq_getElem hj)
      obtain ⟨hsz,hround⟩:=hO.round j hd aS Y h k r hk G w (c.args.map a.eval) p rec s hY has hp hok hrec hsame
      have hr2:(do let d ← Deferred.ofValue (.func (.yield p.l) #[] #[]) (c.args.map a.eval); invoke d.target d.args:Sem Next).run P w=(Instr.yield p.l (c.args.map a.eval)).run P w:=by
       simp [Deferred.ofValue,invoke]
      rw [hr2,run_yield hrec hsz,Oper.uponIn_round]
      refine ⟨hdp,RoundIn.mono (F:=FW ρ) (n:=0) (hround rec.fn) ?_⟩
      intro e w' hR
      cases e with
      | returned v=>exact hn v w' hR
      | panicked ch=>exact hR.elim
      | outgrown=>exact hR.elim
    · cases hk
 · cases hk
end
end Go.AM
