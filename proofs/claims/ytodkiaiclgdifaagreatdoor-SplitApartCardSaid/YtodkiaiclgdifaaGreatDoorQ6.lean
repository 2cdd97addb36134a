/- Part 6 of a proof by the abstract machine. -/
import Derived.Test.YtodkiaiclgdifaaGreatDoorQ5
import Derived.KernelRfl
open List renaming length_cons→ag0,length_append→ag1,length_nil→ag9,replicate→ahg,all_eq_true→ahr,mem_cons→ahv,mem_of_getElem?→ahx,map_cons→ahy,mem_cons_of_mem→ahH,sum_cons→ahI,append_nil→ahK,mem_append→ahL,append_assoc→ahP,takeWhile_cons→ahQ,length_pos_iff→ahS,take_length→ahT,mem_singleton→ahU,pairwise_cons→ahX,cons_append→ah1,drop_eq_nil_of_le→ah9,singleton_append→aib,mem_map→aih,nil_append→aik,drop_drop→ail,length_singleton→aiu,foldl_cons→aiw,drop_zero→aiy,take_add_one→aiH,drop_left'→aiK,length_map→aiL,length→aiO
open Go.Lib renaming decDigits→ag3,joinTail→aht,indexByte→ahW,join→aic,join_cons→ais,atoiSat→aiD
open Go.IntKind renaming wrap→ag4
open Bool renaming not_true→ag5,not_false→ahc,and_eq_true→ahd,false_and→ah0,and_self→ait
open Nat renaming beq_refl→ahf,le_refl→aif,beq→aij,ble_eq→aiv,ble→aiz,pow_pos→aiC,pos_of_ne_zero→aiE
open UInt8 renaming ofNat→ahs
open Or renaming inr→ahD,inl→ahJ
open Classical renaming byContradiction→ahE,propDecidable→aim
open Int renaming toNat_natCast→ain
open List.Pairwise renaming nil→aio
open List.cons renaming inj→aiG
open Prod.mk renaming injEq→aiP
set_option linter.unusedVariables false
set_option linter.unusedSimpArgs false
namespace Go.AM
abbrev rF:=Int×Int×Unit
abbrev A6:=Ey×rF×Unit
theorem vg(n:Nat)(s:List UInt8)(c:UInt8):F.oN n s [c]=some (decide (s.head? = some c)):=by
 unfold F.oN F.mT;cases s with
 |nil=>rfl
 |cons b s =>
  have e:sub (b::s) (0:Int) ((([c]:List UInt8).length:Nat):Int)=some [b]:=zv (b::s) 0 1 (by omega) (by simp);rw[zd (by simp;omega),e,za,za];by_cases h:b=c
  ·subst h;simp
  ·simp[h]
def tw(s:List UInt8):List UInt8:=s.takeWhile ef
theorem KG(s:List UInt8):cz (tw s):=List.all_takeWhile
theorem zns(s:List UInt8):s=tw s++s.drop (tw s).length:=by
 induction s with
 |nil=>rfl
 |cons b s ih =>
  unfold tw at ih ⊢;by_cases h:ef b=true
  ·simp only[ahQ,h,if_true,ag0,List.drop_succ_cons,ah1];rw[←ih]
  ·simp[ahQ,h]
theorem z0h(s:List UInt8):(tw s).length≤s.length:=(List.takeWhile_sublist _).length_le
theorem zgn{a t:List UInt8}(ha:cz a)(ht:∀x,t.head? = some x→ef x=false):tw (a++t)=a:=by
 induction a with
 |nil =>
  cases t with
  |nil=>rfl
  |cons x t =>have:=ht x rfl;simp[tw,ahQ,this]
 |cons b a ih =>obtain⟨h1,h2⟩:=jz.1 ha;have:=ih h2;unfold tw at this ⊢;simp[ahQ,h1,this]
theorem zhn(n:Nat)(X:Type)(k0:Int→(List UInt8)→Int→Int→Int→Option X)(v3 b0 b1:Int)(s:List UInt8)(hs:s.length<4611686018427387904):∀(r:List UInt8)(k m:Nat),s.drop k=r→k≤s.length→r.length<m →
 F.jH.da n k0 m v3 s b0 b1 (k:Int)=k0 v3 s b0 b1 ((k+(tw r).length:Nat):Int):=by
 intro r;induction r with
 |nil =>intro k m hk Cf hm;have:=zm hk;obtain⟨m,rfl⟩:∃q,m=q+1:=⟨m - 1,by omega⟩;show F.jH.da.step n _ k0 _ _ _ _ _=_;unfold F.jH.da.step;rw[ze (by omega)];rfl
 | cons x r ih =>
  intro k m hk Cf hm;obtain⟨h1,h2,h3⟩:=zl hk;obtain⟨m,rfl⟩:∃q,m=q+1:=⟨m - 1,by omega⟩;show F.jH.da.step n (F.jH.da n k0 m) k0 _ _ _ _ _=_;unfold F.jH.da.step;rw[zd (by omega),zp,h2,za,za];unfold tw at ih ⊢;by_cases hd:ef x=true
  ·have hx:=nq.1 hd;rw[zd (by omega),zd (by omega),zi (by omega),ih (k+1) m h3 (by omega) (by simp at hm;omega)];simp only[ahQ,hd,if_true,ag0];congr 2;omega
  ·simp only[ahQ,hd,if_false];by_cases h48:48≤x.toNat
   ·have:¬x.toNat≤57:=fun h=>hd (nq.2 ⟨h48,h⟩);rw[zd (by omega),ze (by omega)];rfl
   ·rw[ze (by omega)];rfl
def p0(s:List UInt8):Nat:=if s.head? = some 45 then 1 else 0
def il(q:Nat)(s:List UInt8):Nat:=q+(tw (s.drop q)).length
def wO(q:Nat)(s:List UInt8):Nat:=il q s+1+(tw (s.drop (il q s+1))).length
theorem zsc(s:List UInt8):p0 s≤s.length:=by
 unfold p0;cases s with
 |nil=>simp
 |cons b s=>split<;>simp
theorem zsd{q:Nat}{s:List UInt8}(hq:q≤s.length):il q s≤s.length:=by have h2:=z0h (s.drop q);simp at h2;unfold il;omega
theorem zqw{s:List UInt8}{k:Nat}{x:UInt8}(h:(s.drop k).head? = some x):k<s.length:=by
 cases e:s.drop k with
 |nil=>rw[e]at h;simp at h
 |cons b r =>have:=congrArg aiO e;simp at this;omega
theorem z4r{q:Nat}{s:List UInt8}(h:(s.drop (il q s)).head? = some 46):wO q s≤s.length:=by have h1:=zqw h;have h2:=z0h (s.drop (il q s+1));simp at h2;unfold wO;omega
def qY(right:Prop)[Decidable right](at':Nat)(len:Nat):rF:=
 if right∧at'=len then(0,0,())else if at'=len then(11,(at':Int),())else(14,(at':Int),())
def sX(q:Nat)(s:List UInt8):rF:=
 if q<il q s∧(s.drop (il q s)).head? = some 46 then qY (il q s+1<wO q s) (wO q s) s.length else qY (q<il q s) (il q s) s.length
def iC(s:List UInt8):rF:=sX (p0 s) s
theorem zur(a b:Nat)(at' len:Nat):(bif decide ((at':Int)>(a:Int))then
 bif (at':Int)==(len:Int)then some (((0:Int),(0:Int),()))else bif (at':Int)==(len:Int)then some (((11:Int),(at':Int),()))else some (((14:Int),(at':Int),()))
 else bif (at':Int)==(len:Int)then some (((11:Int),(at':Int),()))else some (((14:Int),(at':Int),())))=some (qY (a<at') at' len):=by
 unfold qY;by_cases h1:at'=len
 ·have e:((at':Int)==(len:Int))=true:=by simp[h1]
  rw[e];by_cases h2:a<at'
  ·rw[zd (by omega),if_pos ⟨h2,h1⟩];rfl
  ·rw[ze (by omega),if_neg (fun h=>h2 h.1),if_pos h1];rfl
 ·have e:((at':Int)==(len:Int))=false:=by
   have:¬(at':Int)=(len:Int):=by omega
   simpa using this
  rw[e,if_neg (fun h=>h1 h.2),if_neg h1];simp only[cond_false];cases decide ((at':Int)>(a:Int))<;>rfl
theorem zlf (n : Nat) (s:List UInt8) (hs:s.length<4000000000000000000) (hn:s.length<n) (q:Nat) (hq:q≤s.length) :
 F.jH.da n
  (fun Cd fJ ib uq eX =>
   bif decide (eX>Cd)then
    (sub fJ eX (fJ.length:Int)).bind fun x5 =>
     (F.oN n x5 ([46])).bind fun y6 =>
      bif y6 then
       F.jH.da n
        (fun KH qZ amP amQ lU =>
         bif decide (lU>KH)then
          bif lU==(qZ.length:Int)then
           some (((0:Int),(0:Int),()))
          else
          bif lU==(qZ.length:Int)then
           some (((11:Int),lU,()))
          else
           some (((14:Int),lU,()))
         else
         bif lU==(qZ.length:Int)then
          some (((11:Int),lU,()))
         else
          some (((14:Int),lU,()))) n (ag4 .i64 (eX+(1:Int))) fJ ib uq (ag4 .i64 (eX+(1:Int)))
      else
      bif decide (eX>Cd)then
       bif eX==(fJ.length:Int)then
        some (((0:Int),(0:Int),()))
       else
       bif eX==(fJ.length:Int)then
        some (((11:Int),eX,()))
       else
        some (((14:Int),eX,()))
      else
      bif eX==(fJ.length:Int)then
       some (((11:Int),eX,()))
      else
       some (((14:Int),eX,()))
   else
   bif decide (eX>Cd)then
    bif eX==(fJ.length:Int)then
     some (((0:Int),(0:Int),()))
    else
    bif eX==(fJ.length:Int)then
     some (((11:Int),eX,()))
    else
     some (((14:Int),eX,()))
   else
   bif eX==(fJ.length:Int)then
    some (((11:Int),eX,()))
   else
    some (((14:Int),eX,()))) n (q:Int) s (0:Int) (0:Int) (q:Int)
 = some (sX q s):=by
 rw[zhn n _ _ _ _ _ s (by omega) (s.drop q) q n rfl hq (by simp;omega)];have Cf:il q s≤s.length:=zsd hq;show(bif decide (((il q s:Nat):Int)>(q:Int))then _ else _)=_;unfold sX;have xC:wO q s=il q s+1+(tw (s.drop (il q s+1))).length:=rfl;have BK:q+(tw (s.drop q)).length=il q s:=rfl;simp only[BK];generalize wO q s=k3 at xC ⊢;clear BK;generalize il q s=k at Cf xC ⊢;subst xC;have hE:=zur q 0 k s.length;rw[hE];by_cases h1:q<k
 ·rw[zd (by omega)];have nM:sub s (k:Int) (s.length:Int)=some (s.drop k):=by have:=zv s k s.length Cf (aif _);rw[ahT]at this;exact this
  rw[nM,za,vg,za];by_cases h2:(s.drop k).head? = some 46
  ·have bo:k<s.length:=by
    cases e:s.drop k with
    |nil=>rw[e]at h2;simp at h2
    |cons b r =>have:=congrArg aiO e;simp at this;omega
   rw[decide_eq_true h2,cond_true,if_pos ⟨h1,h2⟩,zi (by omega),zhn n _ _ _ _ _ s (by omega) (s.drop (k+1)) (k+1) n rfl (by omega) (by simp;omega)];exact zur (k+1) 0 _ s.length
  ·rw[decide_eq_false h2,cond_false,if_neg (fun h=>h2 h.2)]
 ·rw[ze (by omega),if_neg (fun h=>h1 h.1)]
theorem z2l(n:Nat)(s:List UInt8)(hs:s.length<4000000000000000000)(hn:s.length<n):F.jH n s=some (iC s):=by
 unfold F.jH;rw[vg,za];by_cases h:s.head? = some 45
 ·have hp:p0 s=1:=by unfold p0;rw[if_pos h]
  rw[decide_eq_true h,cond_true];have hq:1≤s.length:=by have:=zsc s;omega
  have:=zlf n s hs hn 1 hq;refine this.trans ?_;unfold iC;rw[hp]
 ·have hp:p0 s=0:=by unfold p0;rw[if_neg h]
  rw[decide_eq_false h,cond_false];have:=zlf n s hs hn 0 (by omega);refine this.trans ?_;unfold iC;rw[hp]
end Go.AM
namespace Go.AM
def wg(r:pX):A6:=if r.2.1=0 then(r.1,(0,0,()),())else((false,0,0,()),(r.2.1,0,()),())
def UA(f:rF):A6:=((false,0,0,()),f,())
def dq(s:List UInt8):List UInt8:=tw (s.drop (p0 s))
def dj(s:List UInt8):List UInt8:=if(s.drop (il (p0 s) s)).head? = some 46 then tw (s.drop (il (p0 s) s+1))else[]
def q_(s:List UInt8):Bool:=decide (s.head? = some 45)
def ag(s:List UInt8):A6:=
 if(iC s).1=0 then wg (eh (q_ s) (dq s++dj s) (-((dj s).length:Int)))else UA (iC s)
theorem zus(neg:Bool)(d:List UInt8)(e:Int):(eh neg d e).2.1=0∨(eh neg d e).2.1=10∧(eh neg d e).1=(false,0,0,()):=by
 unfold eh A4 gR;by_cases h:val d=0
 ·rw[if_pos h];exact ahJ rfl
 ·rw[if_neg h];split
  ·exact ahD ⟨rfl,rfl⟩
  ·split
   ·exact ahJ rfl
   ·exact ahD ⟨rfl,rfl⟩
theorem zlg{d d':List UInt8}(hd:cz d)(jK:cz d')(h:val d=val d')(neg:Bool)(e:Int):eh neg d e=eh neg d' e:=by
 by_cases h0:val d=0
 ·unfold eh;rw[if_pos h0,if_pos (h▸h0)]
 ·obtain⟨c0,z,h1,h2⟩:=wJ (val d) (by omega);rw[kh hd h2 h1,kh jK h2 (h▸h1)]
theorem zyy{d:List UInt8}(hd:cz d)(h:eL≤val d)(ht:db d=d)(neg:Bool)(e:Int):eh neg d e=((false,0,0,()),10,()):=by
 have h0:val d≠0:=by rw[mT]at h;omega
 have hc:=znp hd h0;rw[ht]at hc;rw[kh hd hc (z:=0) (by simp)];unfold gR;split
 ·rfl
 ·rw[if_neg];have:=Nat.le_mul_of_pos_right (val d) (aiC (n:=(e+((0:Nat):Int) - 18).toNat) (show 0<10 by omega));omega
end Go.AM
namespace Go.AM
theorem zut(n:Nat)(X:Type)(k0:Bool→Int→Int→Int→Int→Int→Int→Bool→Int→Int→Option X)(s:List UInt8)(hs:s.length<4611686018427387904)(b:Bool)(x1 x2 x3 x4 x5 x6:Int)(neg:Bool)(E:Int):∀(r:List UInt8)(k m:Nat),s.drop k=r→k≤s.length→r.length<m→cz r→val (s.take k)<eL →
 F.jJ.uh n k0 m s (s.length:Int) (k:Int) b x1 x2 x3 x4 x5 x6 neg (val (s.take k):Int) E=if val s<eL then k0 b x1 x2 x3 x4 x5 x6 neg (val s) E else k0 b x1 x2 x3 x4 x5 x6 neg 1 (-19):=by
 intro r;induction r with
 |nil =>intro k m hk Cf hm hd hv;have hk:=zm hk;obtain⟨m,rfl⟩:∃q,m=q+1:=⟨m - 1,by omega⟩;show F.jJ.uh.step n _ k0 _ _ _ _ _ _ _ _ _ _ _ _ _=_;unfold F.jJ.uh.step;rw[List.take_of_length_le hk]at hv ⊢;rw[ze (by omega),if_pos hv]
 | cons x r ih =>
  intro k m hk Cf hm hd hv;obtain⟨h1,h2,h3⟩:=zl hk;obtain⟨d1,d2⟩:=jz.1 hd;have hx:=nq.1 d1;obtain⟨m,rfl⟩:∃q,m=q+1:=⟨m - 1,by omega⟩;show F.jJ.uh.step n (F.jJ.uh n k0 m) k0 _ _ _ _ _ _ _ _ _ _ _ _ _=_;unfold F.jJ.uh.step;have EX:s.take (k+1)=s.take k++[x]:=by rw[aiH,h2];rfl
  have hvk:val (s.take (k+1))=val (s.take k)*10+dv x:=by rw[EX,MO]
  have Gd:val (s.take (k+1))≤val s:=by
   have e:s=s.take (k+1)++s.drop (k+1):=(List.take_append_drop _ _).symm;have h5:val s=val (s.take (k+1))*10 ^ (s.drop (k+1)).length+val (s.drop (k+1)):=by
    conv=>lhs;rw[e]
    rw[MN]
   have:=Nat.le_mul_of_pos_right (val (s.take (k+1))) (aiC (n:=(s.drop (k+1)).length) (show 0<10 by omega));omega
  have Dk:=ML d1;have MT:ag4 .u64 (ag4 .u8 ((x.toNat:Int) - 48))=(dv x:Int):=by have h8:ag4 .u8 ((x.toNat:Int) - 48)=(x.toNat:Int) - 48:=IntWalk.u8_in _ (by omega);rw[h8,IntWalk.u64_in _ (by omega)];unfold dv;omega
  rw[zd (by omega),zp,h2,za,MT,znq n _ _ hv (by rw[mT];omega),za,←hvk,zi (by omega)];by_cases hf:val (s.take (k+1))<eL
  ·simp only[hf,decide_true,ag5,cond_false,Nat.mod_eq_of_lt hf];exact ih (k+1) m h3 (by omega) (by simp at hm;omega) d2 hf
  ·simp only[hf,decide_false,ahc,cond_true];rw[if_neg (by omega)]
theorem zl6(n:Nat)(s:List UInt8):F.lx n s [45]=some (s.drop (p0 s),q_ s,()):=by
 unfold F.lx F.rQ;have hp:F.mT n s [45]=some (decide (s.head? = some 45)):=by
  have:=vg n s 45;unfold F.oN at this;cases e:F.mT n s [45]with
  |none=>rw[e]at this;cases this
  |some b=>rw[e]at this;exact this
 rw[hp,za];unfold p0 q_;by_cases h:s.head? = some 45
 ·have hl:1≤s.length:=by cases s with|nil=>simp at h|cons=>simp
  have nM:sub s ((([45]:List UInt8).length:Nat):Int) (s.length:Int)=some (s.drop 1):=by have:=zv s 1 s.length hl (aif _);rw[ahT]at this;exact this
  rw[decide_eq_true h,ag5,cond_false,nM,if_pos h];rfl
 ·rw[decide_eq_false h,ahc,cond_true,if_neg h];rfl
theorem zpp{a t:List UInt8}(ha:cz a):ahW (a++46::t) 46=(a.length:Int):=by
 induction a with
 |nil=>simp[ahW]
 |cons b a ih =>
  obtain⟨h1,h2⟩:=jz.1 ha;have hb:¬b=46:=fun h=>by subst h;simp[ef]at h1
  have:=ih h2;simp only[ah1,ahW,beq_iff_eq,hb,if_false,this];have c_:¬(a.length:Int) = -1:=by omega
  simp[c_]
theorem zse{a:List UInt8}(ha:cz a):ahW a 46 = -1:=by
 induction a with
 |nil=>rfl
 |cons b a ih =>
  obtain⟨h1,h2⟩:=jz.1 ha;have hb:¬b=46:=fun h=>by subst h;simp[ef]at h1
  simp[ahW,hb,ih h2]
theorem zqx{s:List UInt8}(h:(iC s).1=0):iC s=(0,0,())∧dq s≠[] ∧
 ((s.drop (p0 s)=dq s∧dj s=[])∨(s.drop (p0 s)=dq s++46::dj s∧dj s≠[])):=by
 unfold iC sX at h ⊢;have split:=zns (s.drop (p0 s));rw[ail]at split;have hle:=zsd (zsc s);by_cases hp:p0 s<il (p0 s) s∧(s.drop (il (p0 s) s)).head? = some 46
 ·rw [if_pos hp]at h ⊢;unfold qY at h ⊢;by_cases h3:il (p0 s) s+1<wO (p0 s) s∧wO (p0 s) s=s.length
  ·rw [if_pos h3];refine⟨rfl,?_,ahD ?_⟩
   ·intro hh;have:(tw (s.drop (p0 s))).length=0:=by unfold dq at hh;rw[hh];rfl
    have:=hp.1;unfold il at this;omega
   ·have hb:dj s=tw (s.drop (il (p0 s) s+1)):=by unfold dj;rw[if_pos hp.2]
    have h2:=zns (s.drop (il (p0 s) s+1));rw[ail]at h2;have h4:s.drop (il (p0 s) s+1+(tw (s.drop (il (p0 s) s+1))).length)=[]:=ah9 (by have h5:=h3.2;unfold wO at h5;omega);rw[h4,ahK]at h2;have h5:s.drop (il (p0 s) s)=46::s.drop (il (p0 s) s+1):=by
     cases e:s.drop (il (p0 s) s)with
     |nil=>rw[e]at hp;simp at hp
     |cons c r =>
      rw[e]at hp;have hc:c=46:=by simpa using hp.2
      subst hc;obtain⟨_,_,g3⟩:=zl e;rw[g3]
    refine⟨?_,?_⟩
    ·rw[split];have:s.drop (p0 s+(tw (s.drop (p0 s))).length)=s.drop (il (p0 s) s):=rfl;rw[this,h5,hb,←h2];rfl
    ·rw[hb];intro hh;have h6:=h3.1;unfold wO at h6;rw[hh]at h6;simp at h6
  ·rw[if_neg h3]at h;split at h<;>cases h
 ·rw[if_neg hp]at h ⊢;unfold qY at h ⊢;by_cases h3:p0 s<il (p0 s) s∧il (p0 s) s=s.length
  ·rw[if_pos h3];have hd:s.drop (il (p0 s) s)=[]:=ah9 (by omega);refine⟨rfl,?_,ahJ ⟨?_,?_⟩⟩
   ·intro hh;have:(tw (s.drop (p0 s))).length=0:=by unfold dq at hh;rw[hh];rfl
    have:=h3.1;unfold il at this;omega
   ·have:s.drop (p0 s+(tw (s.drop (p0 s))).length)=s.drop (il (p0 s) s):=rfl;rw[this,hd,ahK]at split;exact split
   ·unfold dj;rw[hd];simp
  ·rw[if_neg h3]at h;split at h<;>cases h
theorem zho(s:List UInt8):cz (dj s):=by
 unfold dj;split
 ·exact KG _
 ·rfl
theorem zuu(n:Nat){s:List UInt8}(hs:s.length≤10000)(h:(iC s).1=0):∃f,F.kh n (s.drop (p0 s)) [46]=some (dq s,dj s,f,()):=by
 obtain⟨_,_,h3⟩:=zqx h;unfold F.kh F.yL O.mM;rcases h3 with⟨a,b⟩ |⟨a,b⟩
 ·have hi:ahW (dq s) 46 = -1:=zse (KG _);rw[a,b];simp only[za];rw[hi];exact⟨false,rfl⟩
 ·have hl:(dq s++46::dj s).length≤10000:=by rw[←a];simp;omega
  have ni:(dq s).length+((dj s).length+1)≤10000:=by simpa using hl
  have hi:ahW (dq s++46::dj s) 46=((dq s).length:Int):=zpp (KG _);rw[a];simp only[za];rw[hi];have s1:sub (dq s++46::dj s) 0 ((dq s).length:Int)=some (dq s):=by
   have:=zv (dq s++46::dj s) 0 (dq s).length (by omega) (by simp);rw[aiy,List.take_left']at this
   ·exact this
   ·rfl
  have tK:(dq s++46::dj s).drop ((dq s).length+1)=dj s:=by rw[List.drop_append,ah9 (by omega),aik,show(dq s).length+1 - (dq s).length=1 from by omega];rfl
  have s2:sub (dq s++46::dj s) (((dq s).length+1:Nat):Int) ((dq s++46::dj s).length:Int)=some (dj s):=by have:=zv (dq s++46::dj s) ((dq s).length+1) (dq s++46::dj s).length (by simp) (aif _);rw[ahT,tK]at this;exact this
  have hw:ag4 .i64 (((dq s).length:Int)+((([46]:List UInt8).length:Nat):Int))=(((dq s).length+1:Nat):Int):=zi (by omega);rw[zd (by omega),s1,za,hw,s2];exact⟨true,rfl⟩
theorem znt(n:Nat){s:List UInt8}(h:s.length≤10000):O.od n s [48]=some (db s):=by
 unfold O.od;have hb:(Nat.blt (48:UInt8).toNat 128&&aiz s.length eP)=true:=by rw[ahd,aiv];exact⟨rfl,by unfold eP;omega⟩
 simp only[hb,cond_true,zlc]
theorem zyz(n:Nat){s:List UInt8}(h:s.length≤10000):O.sR n s [48]=some (lz s):=by
 unfold O.sR;have hb:(Nat.blt (48:UInt8).toNat 128&&aiz s.length eP)=true:=by rw[ahd,aiv];exact⟨rfl,by unfold eP;omega⟩
 simp only[hb,cond_true];rfl
theorem z2m(d:List UInt8):db (db d)=db d:=zno (fun x hx=>MR hx)
theorem z2n(neg:Bool){d:List UInt8}(hd:cz d)(e:Int):eh neg (lz d) e=eh neg d e:=zlg (zqv hd) hd (z4c d) neg e
theorem zia(n : Nat)(hn : 200000≤n)(neg:Bool)(d:List UInt8)(hd:cz d)(hl:d.length≤10000)(E:Int)(hE : -100000≤E∧E≤100000)(ht:db d=d)(x1 x2 x3 x4 x5 x6:Int) :
 F.jJ.uh n
  (fun KI amV amW Cg amX Ch Ci KJ KK KL =>
   (F.zh n (KJ,KK,KL,())).bind fun ye =>
    bif !(ye.2.1==(0:Int))then
     some (((false,(0:Int),(0:Int),()),(ye.2.1,(0:Int),()),()))
    else
     some (((ye.1.1,ye.1.2.1,ye.1.2.2.1,()),((0:Int),(0:Int),()),()))) n d (d.length:Int) (0:Int) false x1 x2 x3 x4 x5 x6 neg (0:Int) E
 = some (wg (eh neg d E)):=by
 refine(zut n _ _ d (by omega) false x1 x2 x3 x4 x5 x6 neg E d 0 n rfl (by omega) (by omega) hd (by rw[List.take_zero,Fj,mT];omega)).trans ?_;have out:∀r:pX,(r.2.1=0∨r.2.1=10∧r.1=(false,0,0,()))→((some r).bind fun ye =>
  bif !(ye.2.1==(0:Int))then
   some (((false,(0:Int),(0:Int),()),(ye.2.1,(0:Int),()),()))
  else
   some (((ye.1.1,ye.1.2.1,ye.1.2.2.1,()),((0:Int),(0:Int),()),())))=some (wg r):=by
  intro r hr;rw[za];unfold wg;rcases hr with h|⟨h1,h2⟩
  ·rw[h,if_pos rfl];rfl
  ·rw[h1,if_neg (by decide)];rfl
 by_cases hv:val d<eL
 ·rw[if_pos hv,MS n (by omega) neg _ hv E (by omega),zlg (jy _) hd (qn _)];exact out _ (zus neg d E)
 ·have h19:=MS n (by omega) neg 1 (by decide) (-19) (by omega);have hb:=zyy hd (by omega) ht neg E;rw[if_neg hv,show(1:Int)=((1:Nat):Int)from rfl,h19,hb];have e1:eh neg (ag3 1) (-19)=((false,0,0,()),10,()):=by rw[kh (jy 1) (c0:=1) (z:=0) (by decide) (by rw[qn])];unfold gR;rw[if_pos (by omega)]
  rw[e1];exact out _ (ahD ⟨rfl,rfl⟩)
theorem zee(n:Nat)(hn:200000≤n)(s:List UInt8)(hs:s.length≤10000):F.jJ n s=some (ag s):=by
 unfold F.jJ;rw[z2l n s (by omega) (by omega),za];by_cases h:(iC s).1=0
 ·obtain⟨h1,h2,h3⟩:=zqx h;obtain⟨f,ua⟩:=zuu n hs h;have e0:(!((0:Int)==0&&(0:Int)==0))=false:=rfl;rw[h1];simp only[e0,cond_false];rw[zl6,za];simp only[ua,za];have ha:cz (dq s):=KG _;have hb:=zho s;have hlen:(dq s).length+(dj s).length≤10000:=by
   have hd:(s.drop (p0 s)).length≤10000:=by simp;omega
   rcases h3 with⟨a,b⟩ |⟨a,b⟩
   ·rw[b];rw[a]at hd;simpa using hd
   ·rw[a]at hd;simp at hd;omega
  unfold ag;rw[if_pos h];generalize dq s=a at *;generalize dj s=b at *;have htb:=Cb b;rw[znt n (by omega),za,zd (by rw[zr];omega),zyz n (by simp;omega),za];have Cy:cz (a++db b):=zt.2 ⟨ha,sT hb⟩;have rW:=z4q (a++db b);have axi:(lz (a++db b)).length≤a.length+(db b).length:=by simpa using rW
  have rK:=Cb (lz (a++db b));rw[znt n (by omega),za];have j8:eh (q_ s) (lz (a++db b)) (-((db b).length:Int))=eh (q_ s) (a++b) (-(b.length:Int)):=by
   rw[z2n _ Cy];have ur:=Di b
   conv=>rhs;rw[ur]
   rw[←ahP,AH _ Cy];congr 1;simp;omega
  have hD:=zqv Cy;have hw:ag4 .i64 (0 - ((db b).length:Int)) = -((db b).length:Int):=by rw[zh (by omega)];omega
  rw[hw];by_cases hz:(db b).length=0
  ·have ez:(-((db b).length:Int)==0)=true:=by simp[hz]
   rw[ez,cond_true];by_cases BK:(db (lz (a++db b))).length<(lz (a++db b)).length
   ·have hw2:ag4 .i64 (((lz (a++db b)).length:Int) - ((db (lz (a++db b))).length:Int))=(((lz (a++db b)).length - (db (lz (a++db b))).length:Nat):Int):=by rw[zh (by omega)];omega
    rw[zd (by omega),hw2];have:=zia n hn (q_ s) _ (sT hD) (by omega) (((lz (a++db b)).length - (db (lz (a++db b))).length:Nat):Int) (by omega) (z2m _) 0 0 0 0 0 0;refine this.trans ?_;congr 2;rw[←j8,hz];have ur:=Di (lz (a++db b))
    conv=>rhs;rw[ur]
    rw[AH _ (sT hD)];congr 1;omega
   ·have hq:db (lz (a++db b))=lz (a++db b):=by have ur:=Di (lz (a++db b));rw[show(lz (a++db b)).length - (db (lz (a++db b))).length=0 from by omega,List.replicate_zero,ahK]at ur;exact ur.symm
    rw[ze (by omega)];have:=zia n hn (q_ s) _ hD (by omega) (-((db b).length:Int)) (by omega) hq 0 0 0 0 0 0;refine this.trans ?_;rw[j8]
  ·have ez:(-((db b).length:Int)==0)=false:=by
    have:¬(-((db b).length:Int))=0:=by omega
    simpa using this
   rw[ez,cond_false];have hq:db (lz (a++db b))=lz (a++db b):=by
    refine zno fun x hx => ?_;have fG:=znr (a++db b);have Dl:(a++db b).getLast? = some x:=by rw[fG,List.getLast?_append,hx];rfl
    rw[List.getLast?_append]at Dl;cases e:(db b).getLast? with
    |none=>simp at e;rw[e]at hz;simp at hz
    |some y =>
     rw[e]at Dl;have hy:y=x:=by simpa using Dl
     rw[←hy];exact MR e
   have:=zia n hn (q_ s) _ hD (by omega) (-((db b).length:Int)) (by omega) hq 0 0 0 0 0 0;refine this.trans ?_;rw[j8]
 ·have e:((iC s).1==0)=false:=by simpa using h
  unfold ag;rw[if_neg h,e];rfl
end Go.AM
namespace Go.AM
def fS(neg:Bool)(c:Nat)(e:Int):Int:=
 if c≠0∧(e < -18∨e>18)then 10 else if(eh neg (ag3 c) e).2.1=0∧(eh neg (ag3 c) e).1=(neg,(c:Int),e,())then 0 else 21
theorem zy0(a b:Ey):((a.1==b.1)&&((a.2.1==b.2.1)&&(a.2.2.1==b.2.2.1)))=decide (a=b):=by
 obtain⟨a1,a2,a3,_⟩:=a;obtain⟨b1,b2,b3,_⟩:=b;by_cases h:(((a1,a2,a3,()):Ey)=(b1,b2,b3,()))
 ·have:a1=b1∧a2=b2∧a3=b3:=by simpa using h
  rw[decide_eq_true h];simp[this]
 ·rw[decide_eq_false h];have:¬(a1=b1∧a2=b2∧a3=b3):=fun hh=>h (by simp[hh]);simp only[Bool.and_eq_false_iff,beq_eq_false_iff_ne];by_cases g1:a1=b1
  ·by_cases g2:a2=b2
   ·exact ahD (ahD fun g3=>this ⟨g1,g2,g3⟩)
   ·exact ahD (ahJ g2)
  ·exact ahJ g1
theorem zsf(neg:Bool)(c:Nat)(e:Int)(r:pX)(hr:r=eh neg (ag3 c) e) :
 (bif !(r.2.1==(0:Int))then some ((21:Int))else bif !((r.1.1==neg)&&((r.1.2.1==(c:Int))&&(r.1.2.2.1==e)))then some ((21:Int))else some ((0:Int)))
  = some (if(eh neg (ag3 c) e).2.1=0∧(eh neg (ag3 c) e).1=(neg,(c:Int),e,())then 0 else 21):=by
 subst hr;have hb:=zy0 (eh neg (ag3 c) e).1 (neg,(c:Int),e,());simp only at hb;rw[hb];by_cases h1:(eh neg (ag3 c) e).2.1=0
 ·have e1:((eh neg (ag3 c) e).2.1==0)=true:=by simp[h1]
  rw[e1];by_cases h2:(eh neg (ag3 c) e).1=(neg,(c:Int),e,())
  ·rw[decide_eq_true h2,if_pos ⟨h1,h2⟩];rfl
  ·rw[decide_eq_false h2,if_neg (fun h=>h2 h.2)];rfl
 ·have e1:((eh neg (ag3 c) e).2.1==0)=false:=by simpa using h1
  rw[e1,if_neg (fun h=>h1 h.1)];rfl
theorem znu(n:Nat)(hn:100≤n)(neg:Bool)(c:Nat)(hc:c<eL)(e:Int)(he : -9223372036854775808≤e∧e≤9223372036854775807):F.rM n (neg,(c:Int),e,())=some (fS neg c e):=by
 unfold F.rM fS;simp only[MS n hn neg c hc e he,za];have T:=zsf neg c e _ rfl;by_cases h0:c=0
 ·have e0:(((c:Int))==0)=true:=by simp[h0]
  rw[e0,if_neg (fun h=>h.1 h0)];exact T
 ·have e0:(((c:Int))==0)=false:=by simpa using h0
  rw[e0];simp only[ahc,cond_true];by_cases h1:e < -18
  ·rw[zd h1,if_pos ⟨h0,ahJ h1⟩]
  ·rw[ze h1];by_cases h2:e>18
   ·rw[zd h2,if_pos ⟨h0,ahD h2⟩]
   ·rw[ze h2,if_neg (by omega)];exact T
theorem KM{c:Nat}(hc:c<eL):(ag3 c).length≤20:=by rw[zgm];exact Lib.nDigits_le20 c hc
theorem vh{neg:Bool}{c:Nat}{e:Int}(h:fS neg c e=0):eh neg (ag3 c) e=((neg,(c:Int),e,()),0,()) ∧ -18≤e∧e≤18:=by
 unfold fS at h;by_cases h1:c≠0∧(e < -18∨e>18)
 ·rw[if_pos h1]at h;cases h
 rw[if_neg h1]at h;by_cases h2:(eh neg (ag3 c) e).2.1=0∧(eh neg (ag3 c) e).1=(neg,(c:Int),e,())
 ·have h3:eh neg (ag3 c) e=((neg,(c:Int),e,()),0,()):=by obtain⟨a,b⟩:=h2;generalize eh neg (ag3 c) e=r at a b ⊢;obtain⟨r1,r2,_⟩:=r;simp only at a b;rw[a,b]
  refine⟨h3,?_⟩;by_cases h0:c=0
  ·subst h0;unfold eh at h3;rw[if_pos (qn 0)]at h3;have:(0:Int)=e:=congrArg (fun r:pX=>r.1.2.2.1) h3;omega
  ·omega
 ·rw[if_neg h2]at h;cases h
def iq(neg:Bool):List UInt8:=if neg then[45]else[]
def gx(c:Nat)(e:Int):List UInt8:=ahg (1 - e - (ag3 c).length).toNat 48++ag3 c
def fV(neg:Bool)(c:Nat)(e:Int):List UInt8:=
 if 0≤e then iq neg++(ag3 c++ahg e.toNat 48)
 else iq neg++((gx c e).take ((gx c e).length - e.natAbs)++[46]++(gx c e).drop ((gx c e).length - e.natAbs))
theorem zpq(k:Nat):Lib.repeatL [48] k=ahg k 48:=by
 induction k with
 |zero=>rfl
 |succ k ih=>rw[Lib.repeatL,ih];rfl
theorem zlh(n:Nat){k:Int}(h:0≤k∧k≤100000):O.repeat' n [48] k=some (ahg k.toNat 48):=by
 unfold O.repeat'
 have hb:(decide (0≤k)&&aiz k.toNat eP&&aiz (([48]:List UInt8).length*k.toNat) eP)=true:=by rw[ahd,ahd,aiv,aiv];unfold eP;simp only[ag0,ag9];refine⟨⟨by simp;omega,by omega⟩,by omega⟩
 rw[hb,cond_true,zpq]
theorem zgo(c:Nat)(hc:c<eL)(e:Int)(he : -18≤e∧e<0):e.natAbs<(gx c e).length∧(gx c e).length≤40∧cz (gx c e):=by
 have:=KM hc;unfold gx;refine⟨?_,?_,zt.2 ⟨k_ _,jy c⟩⟩
 ·simp;omega
 ·simp;omega
theorem zy1(n:Nat)(hn:200000≤n)(neg:Bool)(c:Nat)(hc:c<eL)(e:Int)(he : -9223372036854775808≤e∧e≤9223372036854775807):F.qo n (neg,(c:Int),e,())=some (if fS neg c e=0 then(fV neg c e,0,())else([],fS neg c e,())):=by
 unfold F.qo;simp only[znu n (by omega) neg c hc e he,za];by_cases h:fS neg c e=0
 ·obtain⟨h1,h2,h3⟩:=vh h;have hl:=KM hc;rw[h,if_pos rfl];have e0:(!((0:Int)==0))=false:=rfl;rw[e0,cond_false];have hf:O.sQ n (c:Int) 10=some (ag3 c):=by
   unfold O.sQ;have:(decide ((0:Int)≤(c:Int))&&decide ((c:Int)<18446744073709551616)&&decide ((10:Int)=10))=true:=by rw[mT]at hc;simp;omega
   rw[this];rfl
  rw[hf,za];unfold fV;by_cases hE:0≤e
  ·rw[zd hE,if_pos hE,zlh n (by omega),za,zd (by rw[zr];simp;omega)];cases neg
   ·rfl
   ·rw[cond_true,zd (by rw[zr];simp;omega)];rfl
  ·obtain⟨w1,w2,w3⟩:=zgo c hc e (by omega);have nK:(if(ag4 .i64 ((ag4 .i64 ((1:Int) - e)) - ((ag3 c).length:Int)))>(0:Int)then(ag4 .i64 ((ag4 .i64 ((1:Int) - e)) - ((ag3 c).length:Int)))else(0:Int))=(((1 - e - (ag3 c).length).toNat:Nat):Int):=by rw[zh (x:=(1:Int) - e) (by omega),zh (by omega)];split<;>omega
   have KN:(ahg (1 - e - (ag3 c).length).toNat (48:UInt8)).length+(ag3 c).length=(gx c e).length:=by unfold gx;simp
   rw[ze (by omega),if_neg hE,nK,zlh n (by omega),za,ain,zd (by rw[zr];omega)];have hww:ahg (1 - e - (ag3 c).length).toNat (48:UInt8)++ag3 c=gx c e:=rfl;rw[hww];generalize gx c e=w at w1 w2 w3;have xB:ag4 .i64 ((w.length:Int)+e)=((w.length - e.natAbs:Nat):Int):=by rw[zh (by omega)];omega
   rw[xB];have s1:sub w 0 ((w.length - e.natAbs:Nat):Int)=some (w.take (w.length - e.natAbs)):=by have:=zv w 0 (w.length - e.natAbs) (by omega) (by omega);rw[aiy]at this;exact this
   have s2:sub w ((w.length - e.natAbs:Nat):Int) (w.length:Int)=some (w.drop (w.length - e.natAbs)):=by have:=zv w (w.length - e.natAbs) w.length (by omega) (aif _);rw[ahT]at this;exact this
   rw[s1,za,zd (by rw[zr];simp;omega),s2,za,zd (by rw[zr];simp;omega)];cases neg
   ·rfl
   ·rw[cond_true,zd (by rw[zr];simp;omega)];rfl
 ·have e0:(fS neg c e==0)=false:=by simpa using h
  rw[e0,if_neg h];rfl
theorem zqy(neg:Bool){a:List UInt8}(ha:cz a)(c_:a≠[])(t:List UInt8):p0 (iq neg++(a++t))=(iq neg).length∧q_ (iq neg++(a++t))=neg:=by
 cases a with
 |nil=>exact absurd rfl c_
 |cons b a =>
  obtain⟨h1,_⟩:=jz.1 ha;have hb:¬b=45:=fun h=>by subst h;simp[ef]at h1
  unfold p0 q_;cases neg
  ·simp[iq,hb]
  ·simp[iq]
theorem zpr(neg:Bool){a:List UInt8}(ha:cz a)(c_:a≠[]):ag (iq neg++a)=wg (eh neg a 0):=by
 have hp:=zqy neg ha c_ [];rw[ahK]at hp;obtain⟨h0,zL⟩:=hp;have hlen:0<a.length:=ahS.2 c_;have Cj:(iq neg++a).drop (iq neg).length=a:=by rw[aiK];rfl
 have KO:tw a=a:=by have:=zgn ha (t:=[]) (by simp);rw[ahK]at this;exact this
 have h1:il (iq neg).length (iq neg++a)=(iq neg++a).length:=by unfold il;rw[Cj,KO,ag1]
 have tK:(iq neg++a).drop (iq neg++a).length=[]:=List.drop_length;have hl:iC (iq neg++a)=(0,0,()):=by unfold iC sX qY;rw[h0,h1,tK,if_neg (by simp),if_pos ⟨by rw[ag1];omega,rfl⟩]
 have hb:dj (iq neg++a)=[]:=by unfold dj;rw[h0,h1,tK];rfl
 have hA:dq (iq neg++a)=a:=by unfold dq;rw[h0,Cj,KO]
 unfold ag;rw[hl,if_pos rfl,hb,hA,zL,ahK];rfl
theorem zps(neg:Bool){a b:List UInt8}(ha:cz a)(c_:a≠[])(hb:cz b)(xo:b≠[]):ag (iq neg++(a++46::b))=wg (eh neg (a++b) (-(b.length:Int))):=by
 obtain⟨h0,zL⟩:=zqy neg ha c_ (46::b);have hlen:0<a.length:=ahS.2 c_;have hlb:0<b.length:=ahS.2 xo;have Cj:(iq neg++(a++46::b)).drop (iq neg).length=a++46::b:=by rw[aiK];rfl
 have KO:tw (a++46::b)=a:=zgn ha (by simp[ef]);have h1:il (iq neg).length (iq neg++(a++46::b))=(iq neg).length+a.length:=by unfold il;rw[Cj,KO]
 have tK:(iq neg++(a++46::b)).drop ((iq neg).length+a.length)=46::b:=by rw[←ail,Cj,aiK];rfl
 have UB:(iq neg++(a++46::b)).drop ((iq neg).length+a.length+1)=b:=by rw[←ail,tK];rfl
 have htb:tw b=b:=by have:=zgn hb (t:=[]) (by simp);rw[ahK]at this;exact this
 have h3:wO (iq neg).length (iq neg++(a++46::b))=(iq neg).length+a.length+1+b.length:=by unfold wO;rw[h1,UB,htb]
 have hL:(iq neg++(a++46::b)).length=(iq neg).length+a.length+1+b.length:=by simp;omega
 have hl:iC (iq neg++(a++46::b))=(0,0,()):=by unfold iC sX qY;rw[h0,h1,tK,if_pos ⟨by omega,rfl⟩,h3,if_pos ⟨by omega,hL.symm⟩]
 have hB:dj (iq neg++(a++46::b))=b:=by unfold dj;rw[h0,h1,tK,if_pos (show(46::b).head? = some 46 from rfl),UB,htb]
 have hA:dq (iq neg++(a++46::b))=a:=by unfold dq;rw[h0,Cj,KO]
 unfold ag;rw[hl,if_pos rfl,hB,hA,zL]
theorem zy2(neg:Bool)(c:Nat)(hc:c<eL)(e:Int)(he : -18≤e∧e≤18):(fV neg c e).length≤39∧(0≤e∨e<0):=by
 have hl:=KM hc;have hs:(iq neg).length≤1:=by cases neg<;>decide
 refine⟨?_,by omega⟩;unfold fV;by_cases h:0≤e
 ·rw[if_pos h];simp;omega
 ·rw[if_neg h];obtain⟨w1,w2,w3⟩:=zgo c hc e (by omega);have:(gx c e).length≤20∨(gx c e).length=(1 - e).toNat:=by unfold gx;simp;omega
  simp;omega
theorem ze9(neg:Bool)(c:Nat)(hc:c<eL)(e:Int)(h:fS neg c e=0):ag (fV neg c e)=((neg,(c:Int),e,()),(0,0,()),()):=by
 obtain⟨h1,h2,h3⟩:=vh h;have fin:wg (eh neg (ag3 c) e)=((neg,(c:Int),e,()),(0,0,()),()):=by rw[h1];rfl
 unfold fV;by_cases hE:0≤e
 ·rw[if_pos hE,zpr neg (zt.2 ⟨jy c,k_ _⟩) (by simp[MQ]),AH _ (jy c),←fin];congr 2;omega
 ·obtain⟨w1,w2,w3⟩:=zgo c hc e (by omega);rw[if_neg hE];have hT:(gx c e).take ((gx c e).length - e.natAbs)≠[]:=by intro hh;have:=congrArg aiO hh;simp at this;omega
  have hD:(gx c e).drop ((gx c e).length - e.natAbs)≠[]:=by intro hh;have:=congrArg aiO hh;simp at this;omega
  rw[ahP,aib,zps neg (zgk _ w3) hT (zlb _ w3) hD,List.take_append_drop,←fin];have hlen:((gx c e).drop ((gx c e).length - e.natAbs)).length=e.natAbs:=by simp;omega
  rw[hlen];have hv:eh neg (gx c e) (-(e.natAbs:Int))=eh neg (ag3 c) (-(e.natAbs:Int)):=zja neg (jy c) _ _;rw[hv,show(-(e.natAbs:Int))=e from by omega]
end Go.AM
namespace Go.AM
theorem zib{α:Type}(b:Bool)(u v:α):(bif b then some u else some v)=some (bif b then u else v):=by cases b<;>rfl
def vp(x lo hi:Int):Bool:=decide (lo≤x)&&decide (x≤hi)
def A7(x:Int):Bool:=vp x 65 90||(vp x 97 122||(x==95||(x==46||(x==45||vp x 48 57))))
def cls(c:Int)(b:UInt8):Bool:=
 bif c==3 then vp b.toNat 33 126&&(!((b.toNat:Int)==44) && !((b.toNat:Int)==124))
 else bif c==2 then((b.toNat:Int)==47)||A7 b.toNat
 else bif c==1 then A7 b.toNat
 else(c==4)&&vp b.toNat 48 57
def may(c:Int):Bool:=decide (1≤c)&&decide (c≤4)
theorem am2(b:UInt8):cls 4 b=ef b:=by unfold cls ef vp;simp;congr 1<;>simp only[decide_eq_decide]<;>omega
theorem zqz(n:Nat)(c:Int):F.qL n c=some (may c):=by
 unfold F.qL may;by_cases h:1≤c
 ·rw[zd (by omega)];simp[h]
 ·rw[ze (by omega)];simp[h]
theorem zsg(n:Nat)(x lo hi:Int):F.mf n x lo hi=some (vp x lo hi):=by
 unfold F.mf vp;by_cases h:lo≤x
 ·rw[zd (by omega)];simp[h]
 ·rw[ze (by omega)];simp[h]
theorem z0i(n:Nat)(c:Int)(b:UInt8):F.ud n c (b.toNat)=some (cls c b):=by
 unfold F.ud cls A7;simp only[zsg,za,zib];congr 1;cases c==3<;>cases c==2<;>cases c==1<;>cases c==4<;>generalize hx:(b.toNat:Int)=x<;>clear hx <;>
  (cases vp x 33 126<;>cases x==44<;>cases vp x 65 90<;>cases vp x 97 122<;>cases x==95<;>cases x==46<;>cases x==45<;>cases x==47<;>rfl)
def eu(p:UInt8→Bool):Nat→List UInt8→Int
 |_,[] => -1
 |k,b::l=>if p b then eu p (k+1) l else(k:Int)
theorem Fl(p:UInt8→Bool)(k:Nat)(l:List UInt8):0≤eu p k l↔¬l.all p=true:=by
 induction l generalizing k with
 |nil=>simp[eu]
 |cons b l ih =>
  unfold eu;by_cases h:p b=true
  ·rw[if_pos h,ih];simp[h]
  ·rw[if_neg h];simp[h]
theorem znv(p:UInt8→Bool)(k:Nat)(l:List UInt8)(h:l.all p=true):eu p k l = -1:=by
 induction l generalizing k with
 |nil=>rfl
 |cons b l ih =>simp only[List.all_cons,ahd]at h;unfold eu;rw[if_pos h.1,ih _ h.2]
theorem zq0(p:UInt8→Bool)(k:Nat)(l:List UInt8):eu p k l<k+l.length∨eu p k l = -1:=by
 induction l generalizing k with
 |nil=>exact ahD rfl
 |cons b l ih =>
  unfold eu;by_cases hb:p b=true
  ·rw[if_pos hb];have:=ih (k+1);simp;omega
  ·rw[if_neg hb];simp;omega
theorem znw(n:Nat)(X:Type)(k0:Unit→Option X)(kr:Int→Int→Option X)(c:Int)(s:List UInt8)(hs:s.length<4611686018427387904):∀(r:List UInt8)(k m:Nat),s.drop k=r→r.length<m →
 F.iZ.L4 n k0 kr m c s (s.length:Int) (k:Int)=if 0≤eu (cls c) k r then kr (eu (cls c) k r) 0 else k0 ():=by
 intro r;induction r with
 |nil =>
  intro k m hk hm;have:=zm hk;cases m with
  |zero=>simp at hm
  |succ m =>show F.iZ.L4.step n _ k0 kr c s _ k=_;unfold F.iZ.L4.step;rw[ze (by omega)];rfl
 | cons x r ih =>
  intro k m hk hm;obtain⟨h1,h2,h3⟩:=zl hk;cases m with
  |zero=>simp at hm
  | succ m =>
   show F.iZ.L4.step n (F.iZ.L4 n k0 kr m) k0 kr c s _ k=_;unfold F.iZ.L4.step;rw[zd (by omega),zp,h2,za,z0i,za];unfold eu;by_cases hx:cls c x=true
   ·rw[hx,if_pos rfl,zi (by omega),ih (k+1) m h3 (by simp at hm;omega)];rfl
   ·have hx:cls c x=false:=by simpa using hx
    rw[hx];have:¬(false=true):=by simp
    rw[if_neg this,if_pos (by omega)];rfl
theorem zj8(n:Nat)(c:Int)(s:List UInt8)(hs:s.length<4611686018427387904)(hn:s.length<n):F.iZ n c s=some (bif may c then(eu (cls c) 0 s,0,())else(0,1,())):=by
 unfold F.iZ;rw[zqz,za];cases hm:may c
 ·rfl
 ·simp only[ag5,cond_false];refine(znw n _ _ _ c s hs s 0 n rfl hn).trans ?_;by_cases h:0≤eu (cls c) 0 s
  ·rw[if_pos h];rfl
  ·rw[if_neg h];have:s.all (cls c)=true:=ahE fun hh=>h ((Fl _ _ _).2 hh);rw[znv _ _ _ this];rfl
def eS(c:Int)(s:List UInt8)(lo hi:Int):Int×Int×Unit:=
 if may c=false∨lo<0∨hi<lo then(1,0,())else if(s.length:Int)<lo then(13,(s.length:Int),())else if(s.length:Int)>hi then(12,hi,())
 else if 0≤eu (cls c) 0 s then(14,eu (cls c) 0 s,())else(0,0,())
theorem qo(n:Nat)(c:Int)(s:List UInt8)(lo hi:Int)(hs:s.length<4611686018427387904)(hn:s.length<n):F.k9 n c s lo hi=some (eS c s lo hi):=by
 unfold F.k9 eS;rw[zj8 n c s hs hn,za];cases hm:may c
 ·rw[if_pos (ahJ rfl)];rfl
 ·simp only[cond_true];have e:(!((0:Int)==0))=false:=rfl;rw[e,cond_false];by_cases h1:lo<0
  ·rw[zd h1,if_pos (ahD (ahJ h1))]
  ·rw [ze h1];by_cases h2:hi<lo
   ·rw[zd h2,if_pos (ahD (ahD h2))]
   ·rw[ze h2,if_neg (by simp[h1,h2])];by_cases h3:(s.length:Int)<lo
    ·rw[zd h3,if_pos h3]
    ·rw[ze h3,if_neg h3];by_cases h4:(s.length:Int)>hi
     ·rw[zd h4,if_pos h4]
     ·rw[ze h4,if_neg h4];by_cases h5:0≤eu (cls c) 0 s
      ·rw[zd (by omega),if_pos h5]
      ·rw[ze (by omega),if_neg h5]
def bytesOf(c:Int):List UInt8:=
 bif c==1 then[65,66,67,68,69,70,71,72,73,74,75,76,77,78,79,80,81,82,83,84,85,86,87,88,89,90,97,98,99,100,101,102,103,104,105,106,107,108,109,110,111,112,113,114,115,116,117,118,119,120,121,122,48,49,50,51,52,53,54,55,56,57,95,46,45]
 else bif c==2 then[65,66,67,68,69,70,71,72,73,74,75,76,77,78,79,80,81,82,83,84,85,86,87,88,89,90,97,98,99,100,101,102,103,104,105,106,107,108,109,110,111,112,113,114,115,116,117,118,119,120,121,122,48,49,50,51,52,53,54,55,56,57,95,46,45,47]
 else bif c==3 then[65,66,67,68,69,70,71,72,73,74,75,76,77,78,79,80,81,82,83,84,85,86,87,88,89,90,97,98,99,100,101,102,103,104,105,106,107,108,109,110,111,112,113,114,115,116,117,118,119,120,121,122,48,49,50,51,52,53,54,55,56,57,95,46,45,47,33,34,35,36,37,38,39,40,41,42,43,58,59,60,61,62,63,64,91,92,93,94,96,123,125,126]
 else bif c==4 then[48,49,50,51,52,53,54,55,56,57]else[]
end Go.AM
namespace Go.AM
def aX(c:UInt8)(s:List UInt8):List UInt8:=s.takeWhile (· != c)
theorem rQ(c b:UInt8)(s:List UInt8):aX c (b::s)=if b=c then[]else b::aX c s:=by
 unfold aX;by_cases h:b=c
 ·subst h;simp[ahQ]
 ·simp[ahQ,h]
theorem k9(c:UInt8)(s:List UInt8):(aX c s).length≤s.length:=(List.takeWhile_sublist _).length_le
theorem zq1(c:UInt8)(s:List UInt8):ahW s c=if c∈s then((aX c s).length:Int)else -1:=by
 induction s with
 |nil=>simp[ahW]
 | cons b s ih =>
  rw[rQ];simp only[ahW,beq_iff_eq,ahv];by_cases h:b=c
  ·subst h;simp
  ·rw[if_neg h,ih];have h':¬c=b:=fun hh=>h hh.symm;by_cases hm:c∈s
   ·rw[if_pos hm,if_pos (ahD hm),if_neg h];rw[if_neg (by omega),ag0];omega
   ·rw[if_neg hm,if_pos rfl,if_neg (by simp[h',hm])]
theorem qP{c:UInt8}{s:List UInt8}(h:c∉s):aX c s=s:=by
 induction s with
 |nil=>rfl
 |cons b s ih =>rw[rQ,if_neg (fun hh=>h (by simp[hh])),ih (fun hh=>h (by simp[hh]))]
theorem qp{c:UInt8}{s:List UInt8}(h:c∈s):(aX c s).length<s.length:=by
 induction s with
 |nil=>simp at h
 | cons b s ih =>
  rw[rQ];by_cases hb:b=c
  ·rw[if_pos hb];simp
  ·rw[if_neg hb];have:c∈s:=by
    rcases ahv.1 h with rfl|h
    ·exact absurd rfl hb
    ·exact h
   have:=ih this;simp;omega
theorem znx(c:UInt8)(s:List UInt8):s.take (aX c s).length=aX c s:=by
 induction s with
 |nil=>rfl
 |cons b s ih =>
  rw[rQ];by_cases hb:b=c
  ·rw[if_pos hb];rfl
  ·rw[if_neg hb];simp[ih]
theorem rO(n:Nat)(c:UInt8){s:List UInt8}(hs:s.length≤1000000):F.kh n s [c]=some (aX c s,(if c∈s then s.drop ((aX c s).length+1)else[]),decide (c∈s),()):=by
 unfold F.kh F.yL O.mM;simp only[za];rw[zq1];by_cases h:c∈s
 ·have hl:=qp h;have s1:sub s 0 ((aX c s).length:Int)=some (aX c s):=by have:=zv s 0 (aX c s).length (by omega) (by omega);rw[aiy,znx]at this;exact this
  have s2:sub s (((aX c s).length+1:Nat):Int) (s.length:Int)=some (s.drop ((aX c s).length+1)):=by have:=zv s ((aX c s).length+1) s.length (by omega) (aif _);rw[ahT]at this;exact this
  have hw:ag4 .i64 (((aX c s).length:Int)+((([c]:List UInt8).length:Nat):Int))=(((aX c s).length+1:Nat):Int):=zi (by omega);simp only[h,if_true,decide_true];rw[zd (by omega),s1,za,hw,s2];rfl
 ·simp only[h,if_false,decide_false];rw[ze (by omega),qP h];rfl
theorem rN{s:List UInt8}{p:Nat}(h:p≤s.length):sub s (p:Int) (s.length:Int)=some (s.drop p):=by have:=zv s p s.length h (aif _);rw[ahT]at this;exact this
def fD(c:UInt8)(s:List UInt8)(p:Nat):Nat:=p+(aX c (s.drop p)).length+(if c∈s.drop p then 1 else 0)
theorem zic{c:UInt8}{s:List UInt8}{p:Nat}(h:p≤s.length):fD c s p≤s.length:=by
 unfold fD;by_cases hm:c∈s.drop p
 ·have:=qp hm;simp at this;rw[if_pos hm];omega
 ·have:=k9 c (s.drop p);simp at this;rw[if_neg hm];omega
theorem KP{s:List UInt8}(h:(ag s).2.1.1=0):(ag s).2.1.2.1=0:=by
 unfold ag wg UA at h ⊢;split
 ·rename_i h1;rw[if_pos h1]at h;split
  ·rfl
  ·rename_i h2;rw[if_neg h2]at h
   first|done|exact absurd h h2
 ·rename_i h1;rw[if_neg h1]at h;exact absurd h h1
theorem zny{c:Int}{s:List UInt8}{lo hi:Int}(h:(eS c s lo hi).1=0):(eS c s lo hi).2.1=0:=by
 unfold eS at h ⊢;by_cases h1:may c=false∨lo<0∨hi<lo
 ·rw[if_pos h1]
 rw[if_neg h1]at h ⊢;by_cases h2:(s.length:Int)<lo
 ·rw[if_pos h2]at h;cases h
 rw[if_neg h2]at h ⊢;by_cases h3:(s.length:Int)>hi
 ·rw[if_pos h3]at h;cases h
 rw[if_neg h3]at h ⊢;by_cases h4:0≤eu (cls c) 0 s
 ·rw[if_pos h4]at h;cases h
 rw[if_neg h4]
abbrev bh:=List UInt8×Int×List (Bool×Int×Int)×Int×List (List UInt8×List UInt8)×Int×Unit
abbrev rb:=bh×rF×Unit
end Go.AM
namespace Go.AM
end Go.AM
namespace Go.AM
end Go.AM
namespace Go.AM
abbrev az:=Bool×Int×Int
abbrev ah:=List UInt8×List UInt8
def de(d:az):Prop:=True∧(0≤d.2.1∧d.2.1≤18446744073709551615) ∧ -9223372036854775808≤d.2.2∧d.2.2≤9223372036854775807
def fy(d:az):Int:=fS d.1 d.2.1.toNat d.2.2
theorem qO{d:az}(h:de d):∃(neg:Bool)(c:Nat)(e:Int),d=(neg,(c:Int),e)∧c<eL ∧ -9223372036854775808≤e∧e≤9223372036854775807:=by
 obtain⟨neg,c,e⟩:=d;obtain⟨_,⟨h1,h2⟩,h3,h4⟩:=h;simp only at h1 h2 h3 h4;refine⟨neg,c.toNat,e,?_,?_,h3,h4⟩
 ·rw[show((c.toNat:Nat):Int)=c from by omega]
 ·rw[mT];omega
theorem zid(n:Nat)(hn:100≤n){d:az}(h:de d):F.rM n (d.1,d.2.1,d.2.2,())=some (fy d):=by obtain⟨neg,c,e,rfl,hc,he⟩:=qO h;exact znu n hn neg c hc e he
def cX(s:List UInt8):Bool:=(eS 1 s 1 200).1==0
def dm(t:ah):Bool:=((eS 2 t.1 1 64).1==0)&&((eS 3 t.2 0 100).1==0)
theorem MU(c:Int)(s:List UInt8)(lo hi:Int):(((eS c s lo hi).1==0)&&((eS c s lo hi).2.1==0))=((eS c s lo hi).1==0):=by
 by_cases h:(eS c s lo hi).1=0
 ·rw[h,zny h];rfl
 ·rw[beq_eq_false_iff_ne.2 h];rfl
def uu(t:ah):Prop:=t.1.length≤10000∧t.2.length≤10000
theorem zj9(n:Nat)(hn:200000≤n){t:ah}(h:uu t):F.qM n (t.1,t.2,())=some (bif dm t then 0 else 19):=by obtain⟨h1,h2⟩:=h;unfold F.qM dm;simp only[qo n 2 t.1 1 64 (by omega) (by omega),qo n 3 t.2 0 100 (by omega) (by omega),za,MU];cases((eS 2 t.1 1 64).1==0)<;>cases((eS 3 t.2 0 100).1==0)<;>rfl
def iD(k:Int):Bool:=decide (1≤k)&&decide (k≤5)
def mh(vs:List az):Bool:=decide (1≤vs.length)&&(decide (vs.length≤64)&&vs.all fun d=>fy d==0)
def ic(k r:Int):Bool:=decide (1≤r)&&(decide (r≤1000000)&&(!(k==2)||r==1000000))
def ns(ts:List ah):Bool:=decide (ts.length≤32)&&ts.all dm
def iE(t:Int):Bool:=decide (0≤t)&&decide (t≤1099511627776)
def jm(m:bh):Int:=
 bif !cX m.1 then 15 else bif !iD m.2.1 then 16 else bif !mh m.2.2.1 then 17 else bif !ic m.2.1 m.2.2.2.1 then 18 else bif !ns m.2.2.2.2.1 then 19 else bif !iE m.2.2.2.2.2.1 then 20 else 0
def iF(m:bh):Prop:=m.1.length≤10000∧(m.2.2.1.length≤10000∧∀d∈m.2.2.1,de d)∧(m.2.2.2.2.1.length≤10000∧∀t∈m.2.2.2.2.1,uu t)
theorem zuv(n:Nat)(hn:200000≤n)(k0:List UInt8→Int→List az→Int→List ah→Int→Option Bool)(kr:Int→List UInt8→Int→List az→Int→List ah→Int→Option Bool)(h0:∀a b c d e f,k0 a b c d e f=some true)(hr:∀i a b c d e f,0≤i→kr i a b c d e f=some false)(vs:List az)(hs:vs.length≤10000)(cb:∀d∈vs,de d)(b0:List UInt8)(b1:Int)(b2:List az)(b3:Int)(b4:List ah)(b5:Int):∀(r:List az)(k m:Nat),vs.drop k=r→r.length<m →
 F.zm.ao n k0 kr m vs (vs.length:Int) (k:Int) b0 b1 b2 b3 b4 b5=some (r.all fun d=>fy d==0):=by
 intro r;induction r with
 |nil =>
  intro k m hk hm;have:=zm hk;cases m with
  |zero=>simp at hm
  |succ m =>show F.zm.ao.step n _ k0 kr vs _ _ _ _ _ _ _ _=_;unfold F.zm.ao.step;rw[ze (by omega),h0];rfl
 | cons x r ih =>
  intro k m hk hm;obtain⟨h1,h2,h3⟩:=zl hk;have hx:de x:=cb x (ahx h2);cases m with
  |zero=>simp at hm
  |succ m =>
   show F.zm.ao.step n (F.zm.ao n k0 kr m) k0 kr vs _ _ _ _ _ _ _ _=_;unfold F.zm.ao.step F.yK;rw[zd (by omega),zp,h2];simp only[za,zid n (by omega) hx,List.all_cons];by_cases h:fy x=0
   ·rw[h,zi (by omega),ih (k+1) m h3 (by simp at hm;omega)];rfl
   ·rw[beq_eq_false_iff_ne.2 h];simp[hr]
theorem zuw(n:Nat)(hn:200000≤n)(k0:List UInt8→Int→List az→Int→List ah→Int→Option Bool)(kr:Int→List UInt8→Int→List az→Int→List ah→Int→Option Bool)(h0:∀a b c d e f,k0 a b c d e f=some true)(hr:∀i a b c d e f,0≤i→kr i a b c d e f=some false)(vs:List ah)(hs:vs.length≤10000)(cb:∀d∈vs,uu d)(b0:List UInt8)(b1:Int)(b2:List az)(b3:Int)(b4:List ah)(b5:Int):∀(r:List ah)(k m:Nat),vs.drop k=r→r.length<m →
 F.zt.aq n k0 kr m vs (vs.length:Int) (k:Int) b0 b1 b2 b3 b4 b5=some (r.all dm):=by
 intro r;induction r with
 |nil =>
  intro k m hk hm;have:=zm hk;cases m with
  |zero=>simp at hm
  |succ m =>show F.zt.aq.step n _ k0 kr vs _ _ _ _ _ _ _ _=_;unfold F.zt.aq.step;rw[ze (by omega),h0];rfl
 | cons x r ih =>
  intro k m hk hm;obtain⟨h1,h2,h3⟩:=zl hk;have hx:uu x:=cb x (ahx h2);cases m with
  |zero=>simp at hm
  |succ m =>
   show F.zt.aq.step n (F.zt.aq n k0 kr m) k0 kr vs _ _ _ _ _ _ _ _=_;unfold F.zt.aq.step F.Ad;rw[zd (by omega),zp,h2];simp only[za,zj9 n hn hx,List.all_cons];cases h:dm x
   ·simp[hr]
   ·rw[zi (by omega),ih (k+1) m h3 (by simp at hm;omega)];rfl
theorem MV(n:Nat)(x lo hi:Int):F.oM n x lo hi=some (decide (lo≤x)&&decide (x≤hi)):=by
 unfold F.oM;by_cases h:lo≤x
 ·rw[zd (by omega),decide_eq_true h];rfl
 ·rw[ze (by omega),decide_eq_false h];rfl
theorem zux(n:Nat)(m:bh)(h:m.1.length≤10000)(hn:200000≤n):F.ql n m=some (cX m.1):=by unfold F.ql cX;rw[qo n 1 m.1 1 200 (by omega) (by omega),za,MU]
theorem zuy(n:Nat)(m:bh):F.tD n m=some (iD m.2.1):=by unfold F.tD iD;rw[MV];rfl
theorem zpt(n:Nat)(hn:200000≤n)(m:bh)(hm:iF m):F.zm n m=some (mh m.2.2.1):=by
 unfold F.zm mh;have L:=zuv n hn (fun _ _ _ _ _ _=>some true) (fun e _ _ _ _ _ _=>some (!(decide (e≥(0:Int))))) (fun _ _ _ _ _ _=>rfl) (fun i _ _ _ _ _ _ h=>by simp[h]) _ hm.2.1.1 hm.2.1.2 m.1 m.2.1 m.2.2.1 m.2.2.2.1 m.2.2.2.2.1 m.2.2.2.2.2.1 m.2.2.1 0 n rfl (by have:=hm.2.1.1;omega);rw[show((0:Nat):Int)=(0:Int)from rfl]at L;rw[MV,za,L];have e1:decide ((1:Int)≤(m.2.2.1.length:Int))=decide (1≤m.2.2.1.length):=by apply decide_eq_decide.2;omega
 have e2:decide ((m.2.2.1.length:Int)≤64)=decide (m.2.2.1.length≤64):=by apply decide_eq_decide.2;omega
 rw[e1,e2];cases decide (1≤m.2.2.1.length)<;>cases decide (m.2.2.1.length≤64)<;>rfl
theorem zuz(n:Nat)(m:bh):F.tT n m=some (ic m.2.1 m.2.2.2.1):=by unfold F.tT ic;rw[MV,za];cases decide ((1:Int)≤m.2.2.2.1)<;>cases decide (m.2.2.2.1≤1000000)<;>cases(m.2.1==2)<;>rfl
theorem zu0(n:Nat)(hn:200000≤n)(m:bh)(hm:iF m):F.zt n m=some (ns m.2.2.2.2.1):=by
 unfold F.zt ns;have L:=zuw n hn (fun _ _ _ _ _ _=>some true) (fun e _ _ _ _ _ _=>some (!(decide (e≥(0:Int))))) (fun _ _ _ _ _ _=>rfl) (fun i _ _ _ _ _ _ h=>by simp[h]) _ hm.2.2.1 hm.2.2.2 m.1 m.2.1 m.2.2.1 m.2.2.2.1 m.2.2.2.2.1 m.2.2.2.2.2.1 m.2.2.2.2.1 0 n rfl (by have:=hm.2.2.1;omega);rw[show((0:Nat):Int)=(0:Int)from rfl]at L;rw[L];have e2:decide ((m.2.2.2.2.1.length:Int)≤32)=decide (m.2.2.2.2.1.length≤32):=by apply decide_eq_decide.2;omega
 rw[e2];cases decide (m.2.2.2.2.1.length≤32)<;>rfl
theorem zu1(n:Nat)(m:bh):F.rN n m=some (iE m.2.2.2.2.2.1):=by unfold F.rN iE;rw[MV];rfl
theorem wH(n:Nat)(hn:200000≤n)(m:bh)(hm:iF m):F.zp n m=some (jm m):=by
 unfold F.zp;obtain⟨q,hq⟩:∃q,n=q+7:=⟨n - 7,by omega⟩;have l1:=zux n m hm.1 hn;have l2:=zuy n m;have l3:=zpt n hn m hm;have l4:=zuz n m;have l5:=zu0 n hn m hm;have l6:=zu1 n m;obtain⟨nm,k,vs,r,ts,t,_⟩:=m;simp only at l1 l2 l3 l4 l5 l6;have key:∀(X:Type)(k0:(List UInt8)→Int→(List az)→Int→(List ah)→Int→(List UInt8)→Int→(List az)→Int→(List ah)→Int→Option X)(kr:Int→(List UInt8)→Int→(List az)→Int→(List ah)→Int→(List UInt8)→Int→(List az)→Int→(List ah)→Int→Option X),
  F.zp.L3 n k0 kr (q+7) ((((nm,k,vs,r,ts,t,()),()),(())),(15:Int),(((nm,k,vs,r,ts,t,()),()),(())),(16:Int),(((nm,k,vs,r,ts,t,()),()),(())),(17:Int),(((nm,k,vs,r,ts,t,()),()),(())),(18:Int),(((nm,k,vs,r,ts,t,()),()),(())),(19:Int),(((nm,k,vs,r,ts,t,()),()),(())),(20:Int),()) 0 nm k vs r ts t nm k vs r ts t =
  (bif !cX nm then kr 15 nm k vs r ts t nm k vs r ts t else bif !iD k then kr 16 nm k vs r ts t nm k vs r ts t else bif !mh vs then kr 17 nm k vs r ts t nm k vs r ts t else bif !ic k r then kr 18 nm k vs r ts t nm k vs r ts t
   else bif !ns ts then kr 19 nm k vs r ts t nm k vs r ts t else bif !iE t then kr 20 nm k vs r ts t nm k vs r ts t else k0 nm k vs r ts t nm k vs r ts t):=by
  intro X k0 kr
  refine Eq.trans (b:=(F.ql n (nm,k,vs,r,ts,t,())).bind fun y=>bif !y then kr 15 nm k vs r ts t nm k vs r ts t else
   (F.tD n (nm,k,vs,r,ts,t,())).bind fun y=>bif !y then kr 16 nm k vs r ts t nm k vs r ts t else
   (F.zm n (nm,k,vs,r,ts,t,())).bind fun y=>bif !y then kr 17 nm k vs r ts t nm k vs r ts t else
   (F.tT n (nm,k,vs,r,ts,t,())).bind fun y=>bif !y then kr 18 nm k vs r ts t nm k vs r ts t else
   (F.zt n (nm,k,vs,r,ts,t,())).bind fun y=>bif !y then kr 19 nm k vs r ts t nm k vs r ts t else
   (F.rN n (nm,k,vs,r,ts,t,())).bind fun y=>bif !y then kr 20 nm k vs r ts t nm k vs r ts t else k0 nm k vs r ts t nm k vs r ts t) (by kernel_rfl) ?_
  rw[l1,l2,l3,l4,l5,l6];rfl
 rw[←hq]at key;rw[key];unfold jm;simp only[zib]
end Go.AM
namespace Go.AM
theorem KQ(s:List UInt8):cX s=(s.all (cls 1)&&(decide (1≤s.length)&&decide (s.length≤200))):=by
 unfold cX eS;rw[if_neg (by simp[may])];by_cases h1:(s.length:Int)<1
 ·rw[if_pos h1];have:decide (1≤s.length)=false:=decide_eq_false (by omega);rw[this];simp
 rw[if_neg h1];have e1:decide (1≤s.length)=true:=decide_eq_true (by omega);by_cases h2:(s.length:Int)>200
 ·rw[if_pos h2];have:decide (s.length≤200)=false:=decide_eq_false (by omega);rw[this];simp
 rw[if_neg h2];have e2:decide (s.length≤200)=true:=decide_eq_true (by omega);rw[e1,e2];by_cases h3:0≤eu (cls 1) 0 s
 ·rw[if_pos h3];have:s.all (cls 1)=false:=by have:=(Fl (cls 1) 0 s).1 h3;simpa using this
  rw[this];rfl
 ·rw[if_neg h3];have:s.all (cls 1)=true:=ahE fun hh=>h3 ((Fl _ _ _).2 hh);rw[this];rfl
end Go.AM
namespace Go.AM
end Go.AM
namespace Go.AM
def mi(m:bh):Bool:=decide (m.2.2.1.length=1)&&decide (m.2.2.2.2.1.length=0)
def UC(m:bh):Bool:=match m.2.2.1 with|[]=>false|d::_=>d.1
def pI(m:bh):Bool:=mi m&&((m.2.2.2.2.2.1==0)&&(!(m.2.1==5)&&(!(m.2.1==2) || !UC m)))
def pJ(m:bh):Bool:=mi m&&(!(m.2.2.2.2.2.1==0)&&(m.2.1==2))
def re(m:bh)(f:Int):Bool:=if f=1 then pI m else if f=3 then pJ m else true
def f_(m:bh)(f:Int):Int:=if f<1∨f>4 then 29 else if jm m=0 then(bif re m f then 0 else 26)else jm m
theorem z2o(l:List az)(k:Nat):(((l.length:Nat):Int)==((k:Nat):Int))=decide (l.length=k):=by
 by_cases h:l.length=k
 ·rw[h];simp
 ·rw[decide_eq_false h,beq_eq_false_iff_ne];omega
theorem zy3(l:List ah)(k:Nat):(((l.length:Nat):Int)==((k:Nat):Int))=decide (l.length=k):=by
 by_cases h:l.length=k
 ·rw[h];simp
 ·rw[decide_eq_false h,beq_eq_false_iff_ne];omega
theorem zq2(n:Nat)(m:bh):F.lB n m=some (mi m):=by have h1:=z2o m.2.2.1 1;have h2:=zy3 m.2.2.2.2.1 0;unfold F.lB mi;rw[show(1:Int)=((1:Nat):Int)from rfl,show(0:Int)=((0:Nat):Int)from rfl,h1,h2];cases decide (m.2.2.1.length=1)<;>rfl
theorem z2p{m:bh}(h:mi m=true):∃d,idx m.2.2.1 (0:Int)=some d∧UC m=d.1:=by
 unfold mi at h;obtain⟨nm,k,vs,r,ts,t,_⟩:=m
 match vs,h with
 |[d],_=>exact⟨d,rfl,rfl⟩
theorem zu2(n:Nat)(m:bh):F.rP n m=some (pI m):=by
 unfold F.rP pI;have hb:F.lB n (m.1,m.2.1,m.2.2.1,m.2.2.2.1,m.2.2.2.2.1,m.2.2.2.2.2.1,())=some (mi m):=zq2 n m;rw[hb,za];cases h:mi m
 ·rfl
 simp only[ag5,cond_false,Bool.true_and];obtain⟨d,hd,hg⟩:=z2p h;rw[hd,hg];cases(m.2.2.2.2.2.1==0)<;>cases(m.2.1==5)<;>cases(m.2.1==2)<;>rfl
theorem zu3(n:Nat)(m:bh):F.qg n m=some (pJ m):=by unfold F.qg pJ;have hb:F.lB n (m.1,m.2.1,m.2.2.1,m.2.2.2.1,m.2.2.2.2.1,m.2.2.2.2.2.1,())=some (mi m):=zq2 n m;rw[hb,za];cases mi m<;>cases(m.2.2.2.2.2.1==0)<;>rfl
theorem zka(n:Nat)(hn:200000≤n)(m:bh)(hm:iF m)(f:Int):F.oD n m f=some (f_ m f):=by
 have hc:F.zp n (m.1,m.2.1,m.2.2.1,m.2.2.2.1,m.2.2.2.2.1,m.2.2.2.2.2.1,())=some (jm m):=wH n hn m hm;have hs:F.rP n (m.1,m.2.1,m.2.2.1,m.2.2.2.1,m.2.2.2.2.1,m.2.2.2.2.2.1,())=some (pI m):=zu2 n m;have hg:F.qg n (m.1,m.2.1,m.2.2.1,m.2.2.2.1,m.2.2.2.2.1,m.2.2.2.2.2.1,())=some (pJ m):=zu3 n m;unfold F.oD f_;rw[hc,hs,hg];simp only[za];by_cases h:f<1∨f>4
 ·rw[if_pos h,beq_eq_false_iff_ne.2 (by omega:f≠1),beq_eq_false_iff_ne.2 (by omega:f≠2),beq_eq_false_iff_ne.2 (by omega:f≠3),beq_eq_false_iff_ne.2 (by omega:f≠4)];rfl
 rw[if_neg h];by_cases h0:jm m=0
 ·rw[if_pos h0,h0];rcases(by omega:f=1∨f=2∨f=3∨f=4)with rfl|rfl|rfl|rfl
  ·show(bif !pI m then some 26 else some 0)=some (bif pI m then 0 else 26);cases pI m<;>rfl
  ·rfl
  ·show(bif !pJ m then some 26 else some 0)=some (bif pJ m then 0 else 26);cases pJ m<;>rfl
  ·rfl
 ·rw[if_neg h0,beq_eq_false_iff_ne.2 h0];rcases(by omega:f=1∨f=2∨f=3∨f=4)with rfl|rfl|rfl|rfl<;>rfl
end Go.AM
namespace Go.AM
theorem zy4(x y:az):((x.1==y.1)&&((x.2.1==y.2.1)&&(x.2.2==y.2.2)))=decide (x=y):=by
 obtain⟨a,b,c⟩:=x;obtain⟨a',b',c'⟩:=y;by_cases h:((a,b,c):az)=(a',b',c')
 ·rw[decide_eq_true h];simp only[aiP]at h;simp[h.1,h.2.1,h.2.2]
 ·rw[decide_eq_false h];cases h1:(a==a')&&((b==b')&&(c==c'))with
  |false=>rfl
  |true =>simp only[ahd,beq_iff_eq]at h1;exact absurd (by rw[h1.1,h1.2.1,h1.2.2]) h
theorem znz(x y:ah):((x.1==y.1)&&(x.2==y.2))=decide (x=y):=by
 obtain⟨a,b⟩:=x;obtain⟨a',b'⟩:=y;by_cases h:((a,b):ah)=(a',b')
 ·rw[decide_eq_true h];simp only[aiP]at h;simp[h.1,h.2]
 ·rw[decide_eq_false h];cases h1:(a==a')&&(b==b')with
  |false=>rfl
  |true =>simp only[ahd,beq_iff_eq]at h1;exact absurd (by rw[h1.1,h1.2]) h
theorem zu4(n:Nat)(X:Type)(k0:Unit→Option X)(kr:Bool→Option X)(a b:List az)(ha:a.length≤10000)(hl:a.length=b.length):∀(r q:List az)(k m:Nat),a.drop k=r→b.drop k=q→r.length<m →
 F.zf.L4 n k0 kr m a b (a.length:Int) (k:Int)=if r=q then k0 ()else kr false:=by
 intro r;induction r with
 |nil =>
  intro q k m hk hq hm;have:=zm hk;obtain⟨m,rfl⟩:∃q,m=q+1:=⟨m - 1,by omega⟩;have:q=[]:=by rw[←hq];exact ah9 (by omega)
  show F.zf.L4.step n (F.zf.L4 n k0 kr m) k0 kr a b _ _=_;unfold F.zf.L4.step;rw[ze (by omega),if_pos this.symm]
 | cons x r ih =>
  intro q k m hk hq hm;obtain⟨h1,h2,h3⟩:=zl hk;obtain⟨m,rfl⟩:∃q,m=q+1:=⟨m - 1,by omega⟩;have hd:b.drop k=b[k]::b.drop (k+1):=List.drop_eq_getElem_cons (by omega);rw[hd]at hq;subst hq;show F.zf.L4.step n (F.zf.L4 n k0 kr m) k0 kr a b _ _=_;unfold F.zf.L4.step;rw[zd (by omega),zp,h2,za,qh (by omega:k<b.length),za,zy4];by_cases hx:x=b[k]
  ·rw[decide_eq_true hx,ag5,cond_false,zi (by omega),ih (b.drop (k+1)) (k+1) m h3 rfl (by simp at hm;omega)];by_cases hr:r=b.drop (k+1)
   ·rw[if_pos hr,if_pos (by rw[hx,←hr])]
   ·rw[if_neg hr,if_neg (fun h=>hr (aiG h).2)]
  ·rw[decide_eq_false hx,if_neg (fun h=>hx (aiG h).1)];rfl
theorem zn0(n:Nat)(X:Type)(k0:Unit→Option X)(kr:Bool→Option X)(a b:List ah)(ha:a.length≤10000)(hl:a.length=b.length):∀(r q:List ah)(k m:Nat),a.drop k=r→b.drop k=q→r.length<m →
 F.zg.L4 n k0 kr m a b (a.length:Int) (k:Int)=if r=q then k0 ()else kr false:=by
 intro r;induction r with
 |nil =>
  intro q k m hk hq hm;have:=zm hk;obtain⟨m,rfl⟩:∃q,m=q+1:=⟨m - 1,by omega⟩;have:q=[]:=by rw[←hq];exact ah9 (by omega)
  show F.zg.L4.step n (F.zg.L4 n k0 kr m) k0 kr a b _ _=_;unfold F.zg.L4.step;rw[ze (by omega),if_pos this.symm]
 | cons x r ih =>
  intro q k m hk hq hm;obtain⟨h1,h2,h3⟩:=zl hk;obtain⟨m,rfl⟩:∃q,m=q+1:=⟨m - 1,by omega⟩;have hd:b.drop k=b[k]::b.drop (k+1):=List.drop_eq_getElem_cons (by omega);rw[hd]at hq;subst hq;show F.zg.L4.step n (F.zg.L4 n k0 kr m) k0 kr a b _ _=_;unfold F.zg.L4.step;rw[zd (by omega),zp,h2,za,qh (by omega:k<b.length),za,znz];by_cases hx:x=b[k]
  ·rw[decide_eq_true hx,ag5,cond_false,zi (by omega),ih (b.drop (k+1)) (k+1) m h3 rfl (by simp at hm;omega)];by_cases hr:r=b.drop (k+1)
   ·rw[if_pos hr,if_pos (by rw[hx,←hr])]
   ·rw[if_neg hr,if_neg (fun h=>hr (aiG h).2)]
  ·rw[decide_eq_false hx,if_neg (fun h=>hx (aiG h).1)];rfl
theorem z2q(n:Nat)(hn:200000≤n)(a b:List az)(ha:a.length≤10000):F.wv n a b=some (decide (a=b)):=by
 unfold F.wv F.zf;by_cases hl:a.length=b.length
 ·have e:((a.length:Int)==(b.length:Int))=true:=by simp[hl]
  rw[e,ag5,cond_false];have L:=zu4 n Bool (fun(_:Unit)=>some (true)) (fun Ck=>some (Ck)) a b ha hl a b 0 n rfl rfl (by omega);rw[show((0:Nat):Int)=(0:Int)from rfl]at L;rw[L];by_cases h:a=b
  ·rw[if_pos h,decide_eq_true h];rfl
  ·rw[if_neg h,decide_eq_false h];rfl
 ·have e:((a.length:Int)==(b.length:Int))=false:=by rw[beq_eq_false_iff_ne];omega
  rw[e,decide_eq_false (fun h=>hl (by rw[h]))];rfl
theorem z2r(n:Nat)(hn:200000≤n)(a b:List ah)(ha:a.length≤10000):F.wD n a b=some (decide (a=b)):=by
 unfold F.wD F.zg;by_cases hl:a.length=b.length
 ·have e:((a.length:Int)==(b.length:Int))=true:=by simp[hl]
  rw[e,ag5,cond_false];have L:=zn0 n Bool (fun(_:Unit)=>some (true)) (fun Ck=>some (Ck)) a b ha hl a b 0 n rfl rfl (by omega);rw[show((0:Nat):Int)=(0:Int)from rfl]at L;rw[L];by_cases h:a=b
  ·rw[if_pos h,decide_eq_true h];rfl
  ·rw[if_neg h,decide_eq_false h];rfl
 ·have e:((a.length:Int)==(b.length:Int))=false:=by rw[beq_eq_false_iff_ne];omega
  rw[e,decide_eq_false (fun h=>hl (by rw[h]))];rfl
noncomputable def eqM(a b:bh):Bool:=@decide (a=b) (aim _)
theorem zq3{a b:bh}(h:a=b):eqM a b=true:=@decide_eq_true _ (aim _) h
theorem z2s{a b:bh}(h:¬a=b):eqM a b=false:=@decide_eq_false _ (aim _) h
theorem zy5(n:Nat)(hn:200000≤n)(a b:bh)(h1:a.2.2.1.length≤10000)(h2:a.2.2.2.2.1.length≤10000):F.sT n a b=some (eqM a b):=by
 obtain⟨a1,a2,a3,a4,a5,a6,_⟩:=a;obtain⟨b1,b2,b3,b4,b5,b6,_⟩:=b;simp only at h1 h2;unfold F.sT;simp only[z2q n hn a3 b3 h1,z2r n hn a5 b5 h2,za];by_cases h:((a1,a2,a3,a4,a5,a6,()):bh)=(b1,b2,b3,b4,b5,b6,())
 ·rw[zq3 h];simp only[aiP]at h;obtain⟨rfl,rfl,rfl,rfl,rfl,rfl,_⟩:=h;simp
 ·rw [z2s h];by_cases g1:a1=b1
  ·by_cases g2:a2=b2
   ·by_cases g4:a4=b4
    ·by_cases g6:a6=b6
     ·by_cases g3:a3=b3
      ·by_cases g5:a5=b5
       ·exact absurd (by rw[g1,g2,g3,g4,g5,g6]) h
       ·simp[g1,g2,g4,g6,g3,g5]
      ·simp[g1,g2,g4,g6,g3]
     ·rw[beq_eq_false_iff_ne.2 g6];simp[g1,g2,g4]
    ·rw[beq_eq_false_iff_ne.2 g4];simp[g1,g2]
   ·rw[beq_eq_false_iff_ne.2 g2];simp[g1]
  ·rw[beq_eq_false_iff_ne.2 g1];rfl
end Go.AM
namespace Go.AM
def mA(t:ah):List ah→List ah
 |[]=>[t]
 |x::r=>if iB x t then x::mA t r else if x=t then x::r else t::x::r
def jT(l:List ah):List ah:=l.foldl (fun o t=>mA t o) []
abbrev dt(l:List ah):Prop:=l.Pairwise fun a b=>iB a b=true
theorem zie(t:ah):∀(l:List ah)(x:ah),x∈mA t l↔x=t∨x∈l
 |[],x=>by simp[mA]
 | y :: r,x=>by
  unfold mA;split
  ·simp only[ahv,zie t r x];constructor
   ·rintro (h|h|h)<;>simp[h]
   ·rintro (h|h|h)<;>simp[h]
  ·split
   ·rename_i e;subst e;simp only[ahv];constructor
    ·rintro (h|h)<;>simp[h]
    ·rintro (h|h|h)<;>simp[h]
   ·simp only[ahv]
theorem zhp(t:ah):∀(l:List ah),dt l→dt (mA t l)
 |[],_=>by simp[mA,dt]
 | y :: r,h=>by
  obtain⟨h1,h2⟩:=ahX.1 h;unfold mA;split
  ·rename_i hy;refine ahX.2 ⟨fun x hx => ?_,zhp t r h2⟩;rcases(zie t r x).1 hx with rfl|hx
   ·exact hy
   ·exact h1 x hx
  ·rename_i hy;split
   ·exact h
   ·rename_i c_;have jd:iB t y=true:=by
     cases hc:iB t y
     ·exact absurd (Mp (by simpa using hy) hc) c_
     ·rfl
    refine ahX.2 ⟨fun x hx => ?_,h⟩;rcases ahv.1 hx with rfl|hx
    ·exact jd
    ·exact Mo jd (h1 x hx)
theorem zc5:∀(a b:List ah),dt a→dt b→(∀x,x∈a↔x∈b)→a=b
 |[],[],_,_,_=>rfl
 |[],y::b,_,_,h=>by have:=(h y).2 (by simp);cases this
 |x::a,[],_,_,h=>by have:=(h x).1 (by simp);cases this
 | x :: a,y::b,ha,hb,h=>by
  obtain⟨h1,h2⟩:=ahX.1 ha;obtain⟨h3,h4⟩:=ahX.1 hb;have e:x=y:=by
   rcases ahv.1 ((h x).1 (by simp))with e|e
   ·exact e
   ·rcases ahv.1 ((h y).2 (by simp))with e' |e'
    ·exact e'.symm
    ·have:=zk7 (h1 y e');rw[h3 x e]at this;cases this
  subst e;rw[zc5 a b h2 h4 (fun z => ?_)];have hx:=h z;simp only[ahv]at hx;constructor
  ·intro hz;rcases hx.1 (ahD hz)with rfl|h'
   ·have:=h1 _ hz;rw[Mn]at this;cases this
   ·exact h'
  ·intro hz;rcases hx.2 (ahD hz)with rfl|h'
   ·have:=h3 _ hz;rw[Mn]at this;cases this
   ·exact h'
theorem zfa:∀(l o:List ah),dt o→dt (l.foldl (fun o t=>mA t o) o)∧∀x,x∈l.foldl (fun o t=>mA t o) o↔x∈o∨x∈l
 |[],o,h=>⟨h,fun x=>by simp⟩
 |t::l,o,h=>by
  obtain⟨h1,h2⟩:=zfa l (mA t o) (zhp t o h);refine⟨h1,fun x => ?_⟩;rw[aiw,h2 x,zie,ahv];constructor
  ·rintro ((h|h) |h)<;>simp[h]
  ·rintro (h|h|h)<;>simp[h]
theorem xU(l:List ah):dt (jT l):=(zfa l [] aio).1
theorem KS(l:List ah)(x:ah):x∈jT l↔x∈l:=by unfold jT;rw[(zfa l [] aio).2 x];simp
theorem zn1{l:List ah}(h:dt l):jT l=l:=zc5 _ _ (xU l) h (fun x=>KS l x)
theorem zn2(t:ah):∀l,(mA t l).length≤l.length+1
 |[]=>by simp[mA]
 |y::r=>by
  unfold mA;have:=zn2 t r;split
  ·simp;omega
  ·split<;>simp
theorem MW(l:List ah):(jT l).length≤l.length:=by
 have:∀(l o:List ah),(l.foldl (fun o t=>mA t o) o).length≤o.length+l.length:=by
  intro l;induction l with
  |nil=>intro o;simp
  |cons t l ih=>intro o;have h1:=ih (mA t o);have h2:=zn2 t o;simp only[aiw,ag0];omega
 have h:=this l [];simp only[ag9,Nat.zero_add]at h;exact h
def ll(D:List ah)(t:ah):List ah:=if D.getLast? = some t then D else D++[t]
theorem zli : ∀ (s D : List ah),lR s→dt D→(∀a∈D,∀b∈s,iB b a=false)→dt (s.foldl ll D)∧∀x,x∈s.foldl ll D↔x∈D∨x∈s
 |[],D,_,h,_=>⟨h,fun x=>by simp⟩
 | t :: s,D,hs,hD,hb=>by
  obtain⟨h1,h2⟩:=ahX.1 hs
  have key : dt (ll D t)∧(∀x,x∈ll D t↔x∈D∨x=t):=by
   unfold ll;split
   ·rename_i e;have ht:t∈D:=List.mem_of_getLast? e;exact⟨hD,fun x=>⟨ahJ,fun h=>h.elim id (fun e=>e▸ht)⟩⟩
   ·rename_i e;refine⟨?_,fun x=>by simp⟩;refine List.pairwise_append.2 ⟨hD,List.pairwise_singleton _ _,fun a ha b kz => ?_⟩;rw[ahU.1 kz];have h0:=hb a ha t (by simp);cases hc:iB a t
    ·exfalso;have:a=t:=Mp hc h0;subst this;apply e
     have:∀(D:List ah),dt D→(∀x∈D,iB a x=false)→a∈D→D.getLast? = some a:=by
      intro D;induction D with
      |nil=>intro _ _ h;cases h
      | cons y D ih =>
       intro hp hm jL;obtain⟨p1,p2⟩:=ahX.1 hp;cases D with
       | nil => rcases ahv.1 jL with rfl|h
                ·rfl
                ·cases h
       |cons z D =>
        rw[List.getLast?_cons_cons];refine ih p2 (fun x hx=>hm x (ahH _ hx)) ?_;rcases ahv.1 jL with rfl|h
        ·have:=p1 z (by simp);rw[hm z (by simp)]at this;cases this
        ·exact h
     exact this D hD (fun x hx=>hb x hx a (by simp)) ha
    ·rfl
  obtain⟨k1,k2⟩:=key
  obtain⟨f1,f2⟩:=zli s (ll D t) h2 k1 (fun a ha b kz=>by
   rcases(k2 a).1 ha with ha|rfl
   ·exact hb a ha b (ahH _ kz)
   ·exact h1 b kz)
  refine⟨f1,fun x => ?_⟩;rw[aiw,f2 x,k2 x,ahv];constructor
  ·rintro ((h|h) |h)<;>simp[h]
  ·rintro (h|h|h)<;>simp[h]
theorem zy6(l:List ah):(cy l).foldl ll []=jT l:=by obtain⟨h1,h2⟩:=zli (cy l) [] (AD l) aio (fun a ha=>by cases ha);refine zc5 _ _ h1 (xU l) (fun x => ?_);rw[h2 x,KS,(yK l).mem_iff];simp
theorem MX{α:Type}:∀(l:List α)(k:Nat)(x:α),dF l k x=l.set k x
 |[],_,_=>rfl
 |_::l,0,_=>rfl
 |_::l,k+1,x=>by simp[dF,MX l k x]
end Go.AM
namespace Go.AM
theorem zn3{α:Type}{L D:List α}{k:Nat}(h:L.take D.length=D)(hk:D.length=k+1):L[k]? = D.getLast?:=by
 rw[List.getLast?_eq_getElem?];have:D[D.length - 1]? = (L.take D.length)[D.length - 1]?:=by rw[h]
 rw[this,hk,List.getElem?_take];simp
theorem zy7{α:Type}{L D:List α}(x:α)(h:L.take D.length=D)(hk:D.length<L.length):(L.set D.length x).take (D++[x]).length=D++[x]:=by rw[ag1,aiu,aiH,List.take_set_of_le (aif _),h];simp[hk]
theorem zy8{α:Type}(L:List α)(i k:Nat)(x:α)(h:i≤k):(L.set i x).drop (k+1)=L.drop (k+1):=List.drop_set_of_lt (by omega)
theorem zu5(n:Nat)(X:Type)(k0:(Nat×Nat)→Int→(Nat×List ah)→(Nat×List ah)→(Nat×List ah)→Option X)(v N:Nat)(hN:N≤100000)(b0 b1:Nat×List ah) :
 ∀(r D L:List ah)(i m:Nat),L.drop i=r→i≤N→r.length<m→D.length≤i→(i=0↔D=[])→L.length=N→L.take D.length=D →
 ∃L',L'.take (r.foldl ll D).length=r.foldl ll D∧L'.length=N∧F.zy.L5 n k0 m (v,N) (D.length:Int) (v,N) (N:Int) (i:Int) b0 b1 (v,L)=k0 (v,N) ((r.foldl ll D).length:Int) b0 b1 (v,L'):=by
 intro r;induction r with
 |nil =>intro D L i m hr hi hm hD h0 hL hT;obtain⟨m,rfl⟩:∃p,m=p+1:=⟨m - 1,by omega⟩;refine⟨L,hT,hL,?_⟩;rw[F.zy.L5];unfold F.zy.L5.step;dsimp only;rw[ze (by have:=zm hr;omega)];rfl
 | cons x r ih =>
  intro D L i m hr hi hm hD h0 hL hT;obtain⟨m,rfl⟩:∃p,m=p+1:=⟨m - 1,by simp at hm;omega⟩;obtain⟨l1,g1,t1⟩:=zl hr;have hw:ag4 .i64 ((D.length:Int)+1)=((D.length+1:Nat):Int):=zi (by omega);have UD:∃L',L'.take (r.foldl ll (D++[x])).length=r.foldl ll (D++[x])∧L'.length=N∧F.zy.L5 n k0 m (v,N) (((D++[x]).length:Nat):Int) (v,N) (N:Int) ((i+1:Nat):Int) b0 b1 (v,L.set D.length x)=k0 (v,N) ((r.foldl ll (D++[x])).length:Int) b0 b1 (v,L'):=ih (D++[x]) (L.set D.length x) (i+1) m (by rw[zy8 L D.length i x hD];exact t1) (by omega) (by simp at hm;omega) (by simp;omega) (by simp) (by simpa using hL) (zy7 x hT (by omega));rw[F.zy.L5];unfold F.zy.L5.step;dsimp only;rw[aiw];have kB:(decide ((0:Int)≤(i:Int))&&decide ((i:Int)<(N:Int)))=true:=by simp;omega
  have ly:(decide ((0:Int)≤(D.length:Int))&&decide ((D.length:Int)<(N:Int)))=true:=by simp;omega
  have CK:aij v v=true:=ahf v;rw[zd (by omega:(i:Int)<(N:Int)),kB,CK,cond_true,cond_true,zp,g1,za,zi (by omega:i<4611686018427387904)];by_cases EW:i=0
  ·have Gc:=h0.1 EW;have e0:((i:Int)==0)=true:=by simp[EW]
   rw[e0,cond_true,ly,cond_true,cond_true,qh (by omega:D.length<L.length),za,hw,ain,MX];have hd:ll D x=D++[x]:=by rw[Gc];rfl
   rw[hd];obtain⟨L',q1,q2,q3⟩:=UD;refine⟨L',q1,q2,?_⟩;rw[←q3,ag1,aiu]
  ·have e0:((i:Int)==0)=false:=by simpa using EW
   have c_:D≠[]:=fun h=>EW (h0.2 h);have oA:0<D.length:=ahS.2 c_;have hwp:ag4 .i64 ((D.length:Int) - 1)=((D.length - 1:Nat):Int):=by rw[zh (by omega)];omega
   have hb3:(decide ((0:Int)≤((D.length - 1:Nat):Int))&&decide (((D.length - 1:Nat):Int)<(N:Int)))=true:=by simp;omega
   obtain⟨y,hy⟩:∃y,D.getLast? = some y:=⟨_,List.getLast?_eq_some_getLast c_⟩;have gl:L[D.length - 1]? = some y:=by rw[zn3 hT (by omega),hy]
   rw[e0,cond_false,hwp,hb3,cond_true,cond_true,zp,gl,za,znz];by_cases MY:x=y
   ·rw[decide_eq_true MY,ag5,cond_false];have hd:ll D x=D:=by unfold ll;rw[hy,MY,if_pos rfl]
    rw[hd];exact ih D L (i+1) m t1 (by omega) (by simp at hm;omega) (by omega) (by simp[c_]) hL hT
   ·rw[decide_eq_false MY,ahc,cond_true,ly,cond_true,cond_true,qh (by omega:D.length<L.length),za,hw,ain,MX];have hd:ll D x=D++[x]:=by unfold ll;rw[hy,if_neg (by simpa using fun h:y=x=>MY h.symm)]
    rw[hd];obtain⟨L',q1,q2,q3⟩:=UD;refine⟨L',q1,q2,?_⟩;rw[←q3,ag1,aiu]
theorem z2t(n:Nat)(l:List ah):F.zw n l=some l:=by unfold F.zw;rw[beq_self_eq_true,cond_true,show(0:Int)=((0:Nat):Int)from rfl,zv l 0 l.length (by omega) (by omega)];simp
theorem zif(n:Nat)(hn:200000≤n)(l:List ah)(hl:l.length≤100000)(v:Nat)(b0 b1:Nat×List ah) :
 F.zy.L5 n (fun(Dm:Nat×Nat) (Dn:Int) (Fo Fp oR:Nat×List ah) =>
  bif aij Dm.1 oR.1 then
   (sub oR.2 (0:Int) Dn).bind fun x12 =>(F.zw n x12).bind fun Dp =>some (Dp)
  else
   none) n (v,l.length) (0:Int) (v,l.length) (l.length:Int) (0:Int) b0 b1 (v,cy l)=some (jT l):=by
 obtain ⟨L',q1,q2,q3⟩:=zu5 n _ (fun(Dm:Nat×Nat) (Dn:Int) (Fo Fp oR:Nat×List ah) =>
         bif aij Dm.1 oR.1 then
          (sub oR.2 (0:Int) Dn).bind fun x12 =>(F.zw n x12).bind fun Dp =>some (Dp)
         else
          none) v l.length hl b0 b1 (cy l) [] (cy l) 0 n rfl (by omega) (by rw[yL];omega) (by simp) (by simp) (yL l) rfl
 refine q3.trans ?_;rw[zy6]at q1 ⊢;dsimp only;rw[ahf,cond_true,show(0:Int)=((0:Nat):Int)from rfl,zv L' 0 _ (by omega) (by rw[q2];exact MW l),q1];simp only[za,aiy,z2t]
theorem zgp(n:Nat)(hn:200000≤n)(l:List ah)(hl:l.length≤100000):F.zy n l=some (jT l):=by
 have e1:(decide ((0+l.length)*32≤2 ^ 46)&&decide (0<32∧32≤2 ^ 20))=true:=by rw[decide_eq_true (by omega)];rfl
 have e2:∀l:List ah,l.length≤100000→(aij (cy l).length l.length&&Nat.blt l.length ai)=true:=by intro l hl;rw[yL,ahf,Bool.true_and,zr];exact aiv▸(by omega:l.length+1≤4611686018427387904)
 unfold F.zy;rw[aik,e1,cond_true,e2 l hl,cond_true];cases l with
 |nil =>have h1:=zif n hn [] (by simp) 1 (1,[]) (1,[]);have h2:=zif n hn [] (by simp) 2 (1,[]) (1,[]);refine Eq.trans (b:=both (some (jT [])) (some (jT []))) ?_ (zki _);rw[List.isEmpty_nil,cond_true];congr 1
 |cons t l =>exact zif n hn (t::l) hl 2 (1,[]) (1,[])
end Go.AM
namespace Go.AM
theorem zpu(s:List UInt8):((ag s).2.1.1≠0∧(ag s).1=(false,0,0,())∧0≤(ag s).2.1.2.1∧(ag s).2.1.2.1≤s.length) ∨
 (∃(neg:Bool)(c:Nat)(e:Int),ag s=((neg,(c:Int),e,()),(0,0,()),())∧c<eL∧(-9223372036854775808≤e∧e≤9223372036854775807)∧fS neg c e=0):=by
 unfold ag;by_cases h:(iC s).1=0
 ·rw [if_pos h];have hD:cz (dq s++dj s):=zt.2 ⟨KG _,zho s⟩;generalize dq s++dj s=d at hD;generalize (-((dj s).length:Int))=E;generalize q_ s=neg;by_cases hv:val d=0
  ·refine ahD ⟨false,0,0,?_,by decide,by omega,?_⟩
   ·have:eh neg d E=A4:=by unfold eh;rw[if_pos hv]
    rw[this];rfl
   ·have d0:ag3 0=[48]:=Fk (by omega);unfold fS;rw[d0];rfl
  ·obtain⟨c0,z,h1,h2⟩:=wJ (val d) (by omega);rw[kh hD h2 h1];generalize E+(z:Int)=Y;by_cases hY:Y < -18
   ·refine ahJ ?_;have:gR neg c0 Y=((false,0,0,()),10,()):=by unfold gR;rw[if_pos hY]
    rw[this];exact⟨by decide,rfl,by decide,by show(0:Int)≤s.length;omega⟩
   ·by_cases hf:c0*10 ^ (Y - 18).toNat<eL
    ·have e1:gR neg c0 Y=((neg,((c0*10 ^ (Y - 18).toNat:Nat):Int),(if Y≤18 then Y else 18),()),0,()):=by unfold gR;rw[if_neg hY,if_pos hf]
     rw[e1];have hE : -18≤(if Y≤18 then Y else 18)∧(if Y≤18 then Y else 18)≤18:=by split<;>omega
     refine ahD ⟨neg,c0*10 ^ (Y - 18).toNat,(if Y≤18 then Y else 18),rfl,hf,by omega,?_⟩;unfold fS;rw[if_neg (by omega),kh (jy _) h2 (qn _)];have e2:(if Y≤18 then Y else 18)+(((Y - 18).toNat:Nat):Int)=Y:=by split<;>omega
     rw[e2,e1,if_pos ⟨rfl,rfl⟩]
    ·refine ahJ ?_;have:gR neg c0 Y=((false,0,0,()),10,()):=by unfold gR;rw[if_neg hY,if_neg hf]
     rw[this];exact⟨by decide,rfl,by decide,by show(0:Int)≤s.length;omega⟩
 ·rw[if_neg h];refine ahJ ⟨h,rfl,?_⟩;show 0≤(iC s).2.1∧(iC s).2.1≤s.length;have KT:∀(r:Prop)[Decidable r](a l:Nat),a≤l→0≤(qY r a l).2.1∧(qY r a l).2.1≤(l:Int):=by
   intro r _ a l hl;unfold qY;split
   ·show(0:Int)≤0∧(0:Int)≤l;omega
   ·split
    ·show(0:Int)≤a∧(a:Int)≤l;omega
    ·show(0:Int)≤a∧(a:Int)≤l;omega
  unfold iC sX;split
  ·rename_i hp;exact KT _ _ _ (z4r hp.2)
  ·exact KT _ _ _ (zsd (zsc s))
end Go.AM
namespace Go.AM
theorem zy9{s:List UInt8}(h:(ag s).2.1.1=0):∃(neg:Bool)(c:Nat)(e:Int),ag s=((neg,(c:Int),e,()),(0,0,()),())∧c<eL∧(-9223372036854775808≤e∧e≤9223372036854775807)∧fS neg c e=0:=by
 rcases zpu s with⟨h1,_⟩ |h1
 ·exact absurd h h1
 ·exact h1
theorem wI(neg:Bool)(c:Nat)(e:Int):∀b∈fV neg c e,(b=45∧neg=true)∨ef b=true∨b=46:=by
 intro b hb;have hsg:∀b∈iq neg,b=45∧neg=true:=by
  intro b hb;cases neg
  ·simp[iq]at hb
  ·simp[iq]at hb;exact⟨hb,rfl⟩
 have hdg:∀(l:List UInt8),cz l→∀b∈l,ef b=true:=fun l hl b hb=>ahr.1 hl b hb;unfold fV at hb;split at hb
 ·rcases ahL.1 hb with h|h
  ·exact ahJ (hsg b h)
  ·exact ahD (ahJ (hdg _ (zt.2 ⟨jy c,k_ _⟩) b h))
 ·rcases ahL.1 hb with h|h
  ·exact ahJ (hsg b h)
  ·have w3:cz (gx c e):=zt.2 ⟨k_ _,jy c⟩;rcases ahL.1 h with h|h
   ·rcases ahL.1 h with h|h
    ·exact ahD (ahJ (hdg _ (zgk _ w3) b h))
    ·exact ahD (ahD (by simpa using h))
   ·exact ahD (ahJ (hdg _ (zlb _ w3) b h))
theorem zjb(neg:Bool)(c:Nat)(e:Int):(124:UInt8)∉fV neg c e:=by
 intro h;rcases wI neg c e _ h with h|h|h
 ·exact absurd h.1 (by decide)
 ·exact absurd h (by decide)
 ·exact absurd h (by decide)
theorem zsh(c:Nat)(e:Int):¬(fV false c e).head? = some 45:=by
 intro h;have hm:(45:UInt8)∈fV false c e:=List.mem_of_mem_head? (by rw[h];rfl);rcases wI false c e _ hm with h|h|h
 ·cases h.2
 ·exact absurd h (by decide)
 ·exact absurd h (by decide)
theorem zu6{l:List UInt8}(h:cz l):(124:UInt8)∉l:=fun hm=>absurd (ahr.1 h _ hm) (by decide)
end Go.AM
namespace Go.AM
end Go.AM
namespace Go.AM
def Dq(m:bh):Prop:=(∀d∈m.2.2.1,de d)
def pY:List az→List UInt8
 |[]=>[]
 |d::_=>fV d.1 d.2.1.toNat d.2.2
theorem vd{m:bh}(h:jm m=0):cX m.1=true∧iD m.2.1=true∧mh m.2.2.1=true∧ic m.2.1 m.2.2.2.1=true∧ns m.2.2.2.2.1=true∧iE m.2.2.2.2.2.1=true:=by unfold jm at h;revert h;cases cX m.1<;>cases iD m.2.1<;>cases mh m.2.2.1<;>cases ic m.2.1 m.2.2.2.1<;>cases ns m.2.2.2.2.1<;>cases iE m.2.2.2.2.2.1<;>simp
theorem Fq{d:az}(hd:de d)(h:fy d=0):(fV d.1 d.2.1.toNat d.2.2).length≤39:=by obtain⟨neg,c,e,rfl,hc,he⟩:=qO hd;exact(zy2 neg c hc e (vh h).2).1
theorem zfb(n:Nat)(hn:200000≤n){d:az}(hd:de d)(h:fy d=0):F.qo n (d.1,d.2.1,d.2.2,())=some (fV d.1 d.2.1.toNat d.2.2,0,()):=by obtain⟨neg,c,e,rfl,hc,he⟩:=qO hd;have h':fS neg c e=0:=h;have:=zy1 n hn neg c hc e he;rw[if_pos h']at this;exact this
end Go.AM
namespace Go.AM
theorem zsi{d:List UInt8}(hD:cz d)(neg:Bool)(E:Int):((eh neg d E).2.1=10∧(eh neg d E).1=(false,0,0,())) ∨
 (∃(UE:Bool)(c:Nat)(e:Int),eh neg d E=((UE,(c:Int),e,()),0,())∧c<eL∧(-9223372036854775808≤e∧e≤9223372036854775807)∧fS UE c e=0):=by
 by_cases hv:val d=0
 ·refine ahD ⟨false,0,0,?_,by decide,by omega,?_⟩
  ·have:eh neg d E=A4:=by unfold eh;rw[if_pos hv]
   rw[this];rfl
  ·have d0:ag3 0=[48]:=Fk (by omega);unfold fS;rw[d0];rfl
 ·obtain⟨c0,z,h1,h2⟩:=wJ (val d) (by omega);rw[kh hD h2 h1];generalize E+(z:Int)=Y;by_cases hY:Y < -18
  ·refine ahJ ?_;have:gR neg c0 Y=((false,0,0,()),10,()):=by unfold gR;rw[if_pos hY]
   rw[this];exact⟨rfl,rfl⟩
  ·by_cases hf:c0*10 ^ (Y - 18).toNat<eL
   ·have e1:gR neg c0 Y=((neg,((c0*10 ^ (Y - 18).toNat:Nat):Int),(if Y≤18 then Y else 18),()),0,()):=by unfold gR;rw[if_neg hY,if_pos hf]
    rw[e1];have hE : -18≤(if Y≤18 then Y else 18)∧(if Y≤18 then Y else 18)≤18:=by split<;>omega
    refine ahD ⟨neg,c0*10 ^ (Y - 18).toNat,(if Y≤18 then Y else 18),rfl,hf,by omega,?_⟩;unfold fS;rw[if_neg (by omega),kh (jy _) h2 (qn _)];have e2:(if Y≤18 then Y else 18)+(((Y - 18).toNat:Nat):Int)=Y:=by split<;>omega
    rw[e2,e1,if_pos ⟨rfl,rfl⟩]
   ·refine ahJ ?_;have:gR neg c0 Y=((false,0,0,()),10,()):=by unfold gR;rw[if_neg hY,if_neg hf]
    rw[this];exact⟨rfl,rfl⟩
def rf(d:az):pX:=eh d.1 (ag3 d.2.1.toNat) d.2.2
def og(d:az):Bool:=(rf d).2.1==0
def Cl(d:az):az:=((rf d).1.1,(rf d).1.2.1,(rf d).1.2.2.1)
def iO(d:az):az:=if og d then Cl d else d
theorem z2u(n:Nat)(hn:100≤n){d:az}(h:de d):F.zh n (d.1,d.2.1,d.2.2,())=some (rf d):=by obtain⟨neg,c,e,rfl,hc,he⟩:=qO h;exact MS n hn neg c hc e he
theorem zlj{d:az}(h:og d=true):iO d=Cl d∧fy (iO d)=0∧de (iO d):=by
 have e:iO d=Cl d:=by unfold iO;rw[if_pos h]
 refine⟨e,?_⟩;rw[e];unfold Cl;unfold og at h;rcases zsi (jy d.2.1.toNat) d.1 d.2.2 with⟨h1,_⟩ |⟨neg,c,e,h1,h2,h3,h4⟩
 ·exfalso;have h1:(rf d).2.1=10:=h1;rw[h1]at h;cases h
 ·have h1:rf d=((neg,(c:Int),e,()),0,()):=h1;rw[h1];refine⟨h4,trivial,⟨by simp,?_⟩,h3⟩;have:=mT;simp only;omega
theorem zlk{d:az}(hd:de d)(h:og d=false):iO d=d∧fy d≠0:=by refine⟨by unfold iO;rw[if_neg (by rw[h];simp)],fun h0 => ?_⟩;obtain⟨neg,c,e,rfl,hc,he⟩:=qO hd;have hh:rf (neg,(c:Int),e)=((neg,(c:Int),e,()),0,()):=(vh h0).1;unfold og at h;rw[hh]at h;cases h
theorem zza{d:az}(hd:de d)(h0:fy d=0):og d=true∧iO d=d:=by
 obtain⟨neg,c,e,rfl,hc,he⟩:=qO hd;have hv:=(vh h0).1;have h1:rf (neg,(c:Int),e)=((neg,(c:Int),e,()),0,()):=hv;have h2:og (neg,(c:Int),e)=true:=by unfold og;rw[h1];rfl
 refine⟨h2,?_⟩;unfold iO Cl;rw[if_pos h2,h1]
theorem zzb{d:az}(hd:de d):de (iO d):=by
 cases h:og d
 ·rw[(zlk hd h).1];exact hd
 ·exact(zlj h).2.2
def yf:bh:=([],(0:Int),[],(0:Int),[],(0:Int),())
def oh(m:bh):bh:=(m.1,m.2.1,m.2.2.1.map iO,m.2.2.2.1,m.2.2.2.2.1,m.2.2.2.2.2.1,())
def jo(m:bh):bh:=(m.1,m.2.1,m.2.2.1.map iO,m.2.2.2.1,jT m.2.2.2.2.1,m.2.2.2.2.2.1,())
def fW(m:bh):bh×Int×Unit:=if jm (oh m)=0 then(jo m,0,())else(yf,jm (oh m),())
theorem zn4{m:bh}(hm:iF m):iF (oh m):=by refine⟨hm.1,⟨by rw[oh];simpa using hm.2.1.1,fun d hd => ?_⟩,hm.2.2⟩;obtain⟨x,hx,rfl⟩:=aih.1 hd;exact zzb (hm.2.1.2 x hx)
theorem z4d{α:Type}(p r:List α)(x y:α):dF (p++x::r) p.length y=p++y::r:=by rw[MX,List.set_append_right _ _ (aif _),Nat.sub_self];rfl
theorem zu7(n:Nat)(hn:200000≤n)(X:Type)(k0:(Nat×Nat)→List UInt8→Int→List az→Int→List ah→Int→List UInt8→Int→List az→Int→List ah→Int→(Nat×List az)→(Nat×List az)→Nat→Nat→Option X)
 (MZ:List UInt8) (G7:Int) (G8:List az) (G9:Int) (M0:List ah) (M3:Int) (jA:List UInt8) (jU:Int) (jV:List az) (jW:Int) (jX:List ah) (jY:Int) (b2:Nat×List az) (k1 k2:Nat) (v N:Nat) (hN:N≤10000) :
 ∀(r p:List az)(i m:Nat),i+r.length=N→p.length=i→r.length<m→(∀d∈r,de d) →
 F.zl.L3 n k0 m (v,N) (v,N) (N:Int) (i:Int) MZ G7 G8 G9 M0 M3 jA jU jV jW jX jY b2 (v,p++r) k1 k2=k0 (v,N) MZ G7 G8 G9 M0 M3 jA jU jV jW jX jY b2 (v,p++r.map iO) k1 k2:=by
 intro r;induction r with
 |nil =>intro p i m h1 h2 hm cb;obtain⟨m,rfl⟩:∃q,m=q+1:=⟨m - 1,by omega⟩;rw[F.zl.L3];unfold F.zl.L3.step;dsimp only;rw[ze (by simp at h1;omega)];rfl
 |cons x r ih =>
  intro p i m h1 h2 hm cb;obtain⟨m,rfl⟩:∃q,m=q+1:=⟨m - 1,by simp at hm;omega⟩;simp only[ag0]at h1 hm;have hx:=cb x (by simp);have hp:(p++x::r)[i]? = some x:=by rw[←h2];simp
  have kB:(decide ((0:Int)≤(i:Int))&&decide ((i:Int)<(N:Int)))=true:=by simp;omega
  rw[F.zl.L3];unfold F.zl.L3.step;dsimp only;rw[zd (by omega:(i:Int)<(N:Int)),kB,ahf,cond_true,cond_true,zp,hp,za,z2u n (by omega) hx,za,zi (by omega)];have step:∀y,y=iO x→F.zl.L3 n k0 m (v,N) (v,N) (N:Int) ((i+1:Nat):Int) MZ G7 G8 G9 M0 M3 jA jU jV jW jX jY b2 (v,p++y::r) k1 k2=k0 (v,N) MZ G7 G8 G9 M0 M3 jA jU jV jW jX jY b2 (v,p++(x::r).map iO) k1 k2:=by intro y hy;have:=ih (p++[y]) (i+1) m (by omega) (by simp;omega) (by omega) (fun d hd=>cb d (ahH _ hd));rw[ahP,ahP,aib,aib]at this;rw[this,hy,ahy]
  cases hv:og x
  ·have BM:((rf x).2.1==0)=false:=hv;rw[BM,cond_false];exact step x (zlk hx hv).1.symm
  ·have BM:((rf x).2.1==0)=true:=hv;rw[BM,cond_true,cond_true,cond_true,za,ain,←h2,z4d,h2];exact step _ (zlj hv).1.symm
theorem zn5(n:Nat)(hn:200000≤n)(m:bh)(hm:iF m)(v:Nat)(jA:List UInt8)(jU:Int)(jV:List az)(jW:Int)(jX:List ah)(jY:Int)(b2:Nat×List az)(k1 k2:Nat) :
 F.zl.L3 n
  (fun Ck fJ kP uo rh rj rk ib uq Ce anp anq anr eX oS ax1 ax2 =>
   bif aij Ck.1 oS.1 then
    (F.zp n (fJ,kP,oS.2,rh,rj,rk,())).bind fun y5 =>
     bif !(y5==(0:Int))then
      some ((([],(0:Int),[],(0:Int),[],(0:Int),()),y5,()))
     else
      (F.zy n rj).bind fun y6 =>some (((fJ,kP,oS.2,rh,y6,rk,()),(0:Int),()))
   else
    none) n (v,m.2.2.1.length) (v,m.2.2.1.length) (m.2.2.1.length:Int) (0:Int) m.1 m.2.1 m.2.2.1 m.2.2.2.1 m.2.2.2.2.1 m.2.2.2.2.2.1 jA jU jV jW jX jY b2 (v,m.2.2.1) k1 k2=some (fW m):=by
 refine(zu7 n hn _ _ m.1 m.2.1 m.2.2.1 m.2.2.2.1 m.2.2.2.2.1 m.2.2.2.2.2.1 jA jU jV jW jX jY b2 k1 k2 v m.2.2.1.length (by have:=hm.2.1.1;omega) m.2.2.1 [] 0 n (by omega) rfl (by have:=hm.2.1.1;omega) hm.2.1.2).trans ?_;dsimp only;rw[ahf,cond_true];have hc:F.zp n (m.1,m.2.1,[]++m.2.2.1.map iO,m.2.2.2.1,m.2.2.2.2.1,m.2.2.2.2.2.1,())=some (jm (oh m)):=wH n hn (oh m) (zn4 hm);rw[hc,za];unfold fW;by_cases h:jm (oh m)=0
 ·rw[if_pos h,h,zgp n hn _ (by have:=hm.2.2.1;omega)];rfl
 ·rw[if_neg h,beq_eq_false_iff_ne.2 h];rfl
theorem zdp(n:Nat)(hn:200000≤n)(m:bh)(hm:iF m):F.zl n m=some (fW m):=by
 have hl:=hm.2.1.1;have e1:(decide ((0+m.2.2.1.length)*24≤2 ^ 46)&&decide (0<24∧24≤2 ^ 20))=true:=by rw[decide_eq_true (by omega)];rfl
 unfold F.zl;rw[e1,cond_true];have h2:=zn5 n hn m hm 2 [] 0 [] 0 [] 0 (1,[]) 0 0;cases hv:m.2.2.1 with
 |nil =>have h1:=zn5 n hn m hm 1 [] 0 [] 0 [] 0 (1,[]) 0 0;rw[hv]at h1 h2;refine Eq.trans (b:=both (some (fW m)) (some (fW m))) ?_ (zki _);rw[List.isEmpty_nil,cond_true];exact congr (congrArg both h1) h2
 |cons d vs =>rw[hv]at h2;exact h2
end Go.AM
namespace Go.AM
abbrev Cm:=Int×(Int×Int×Unit)×Unit
def gy(v c at':Int):Cm:=(v,(c,at',()),())
theorem zzc:cls 4=ef:=funext am2
theorem zzd(n:Nat)(c a:Int):F.jM n c a=some (0,(c,a,()),()):=rfl
theorem M4{s:List UInt8}{k:Nat}(h:¬0≤eu ef k s):cz s:=ahE fun hh=>h ((Fl _ _ _).2 hh)
theorem zhq{s:List UInt8}{k:Nat}(h:cz s):eu ef k s = -1:=znv _ _ _ h
theorem Ez(s:List UInt8)(hs:s.length<4611686018427387904):eS 4 s 1 (ag4 .i64 ((s.length:Int)+1))=if s=[]then(13,0,())else if 0≤eu ef 0 s then(14,eu ef 0 s,())else(0,0,()):=by
 unfold eS;rw[zi hs,zzc];have hm:may 4=true:=rfl;rw[if_neg (by simp[hm];omega)];cases s with
 |nil=>rfl
 |cons b s =>rw[if_neg (show ¬(((b::s).length:Nat):Int)<1 from by simp;omega),if_neg (show ¬(((b::s).length:Nat):Int)>(((b::s).length+1:Nat):Int)from by omega),if_neg (show ¬(b::s=[])from by simp)]
end Go.AM
namespace Go.AM
def parseNum(s:List UInt8)(lo hi:Int):Cm:=
 if s=[]then gy 0 13 0 else if 0≤eu ef 0 s then gy 0 14 (eu ef 0 s)else if s.head? = some 48∧1<s.length then gy 0 11 0
 else if 9223372036854775808≤val s∨(val s:Int)<lo∨(val s:Int)>hi then gy 0 10 0 else gy (val s) 0 0
theorem z4e(n:Nat){s:List UInt8}(hd:cz s)(hn:s≠[])(hs:s.length≤1000000):O.atoi n s=some (if val s<9223372036854775808 then((val s:Int),false,())else(aiD s,true,())):=by
 unfold O.atoi;have:aiz s.length eP=true:=by rw[aiv];unfold eP;omega
 rw[this,cond_true,zup hd hn];by_cases h:val s<9223372036854775808
 ·rw[if_pos h,if_pos h]
 ·rw[if_neg h,if_neg h]
theorem zu8(n:Nat)(s:List UInt8)(lo hi:Int)(hs:s.length≤1000000)(hn:s.length<n):F.AD n s lo hi=some (parseNum s lo hi):=by
 unfold F.AD parseNum;rw[qo n 4 s _ _ (by omega) hn,za,Ez s (by omega)];by_cases h0:s=[]
 ·rw[if_pos h0,if_pos h0];rfl
 rw[if_neg h0,if_neg h0];by_cases h1:0≤eu ef 0 s
 ·rw[if_pos h1,if_pos h1];rfl
 rw[if_neg h1,if_neg h1];have e:(!((0:Int)==0&&(0:Int)==0))=false:=rfl;simp only[e,cond_false];have hd:=M4 h1;cases s with
 |nil=>exact absurd rfl h0
 | cons b r =>
  have ei:idx (b::r) (0:Int)=some b:=rfl;rw[ei,za,z4e n hd h0 hs,za];have tail:∀(p:Bool)(A:Option Cm),(bif p then A else A)=A:=by intro p A;cases p<;>rfl
  have core:(bif (if val (b::r)<9223372036854775808 then((val (b::r):Int),false,())else(aiD (b::r),true,())).2.1 then(F.jM n 10 0).bind fun y6=>some ((y6.1,(y6.2.1.1,y6.2.1.2.1,()),()))
   else bif decide ((if val (b::r)<9223372036854775808 then((val (b::r):Int),false,())else(aiD (b::r),true,())).1<lo)then(F.jM n 10 0).bind fun y6=>some ((y6.1,(y6.2.1.1,y6.2.1.2.1,()),()))
   else bif decide ((if val (b::r)<9223372036854775808 then((val (b::r):Int),false,())else(aiD (b::r),true,())).1>hi)then(F.jM n 10 0).bind fun y6=>some ((y6.1,(y6.2.1.1,y6.2.1.2.1,()),()))
   else some (((if val (b::r)<9223372036854775808 then((val (b::r):Int),false,())else(aiD (b::r),true,())).1,((0:Int),(0:Int),()),())))
   = some (if 9223372036854775808≤val (b::r)∨(val (b::r):Int)<lo∨(val (b::r):Int)>hi then gy 0 10 0 else gy (val (b::r)) 0 0):=by
   by_cases hv:val (b::r)<9223372036854775808
   ·rw[if_pos hv];simp only[cond_false];by_cases g1:(val (b::r):Int)<lo
    ·rw[zd g1,if_pos (ahD (ahJ g1))];rfl
    ·rw[ze g1];by_cases g2:(val (b::r):Int)>hi
     ·rw[zd g2,if_pos (ahD (ahD g2))];rfl
     ·rw[ze g2,if_neg (by omega)];rfl
   ·rw[if_neg hv,if_pos (ahJ (by omega))];rfl
  by_cases hb:b=48
  ·subst hb;have e2:((((48:UInt8).toNat:Nat):Int)==48)=true:=rfl;rw[e2,cond_true];by_cases hl:1<(48::r).length
   ·rw[zd (by omega),if_pos (show(48::r).head? = some 48∧1<(48::r).length from⟨rfl,hl⟩)];rfl
   ·rw[ze (by omega),if_neg (show ¬((48::r).head? = some 48∧1<(48::r).length)from fun h=>hl h.2)];exact core
  ·have e2:((b.toNat:Int)==48)=false:=by have:¬(b.toNat:Int)=48:=fun h=>hb (znl (by simp;omega));simpa using this
   rw[e2,cond_false,if_neg (show ¬((b::r).head? = some 48∧1<(b::r).length)from fun h=>hb (by simpa using h.1))];exact core
theorem zq4(n:Nat)(s:List UInt8)(hs:s.length≤1000000)(hn:s.length<n):F.uY n s=some (parseNum s 1 1099511627776):=by unfold F.uY;rw[zu8 n s _ _ hs hn,za]
def rl(k:Int):List UInt8×Int×Unit:=if k<0 then([],10,())else(ag3 k.toNat,0,())
theorem zn6(n:Nat)(k:Int)(h : -9223372036854775808≤k∧k≤9223372036854775807):F.qp n k=some (rl k):=by
 unfold F.qp rl;by_cases h0:k<0
 ·rw[zd h0,if_pos h0]
 ·rw[ze h0,if_neg h0];unfold O.itoa;have:(decide (-9223372036854775808≤k)&&decide (k≤9223372036854775807))=true:=by simp[h]
  rw[this,cond_true,za];unfold Lib.itoa;rw[if_neg h0]
theorem zze(u:Nat):(ag3 u).head? = some 48→¬1<(ag3 u).length:=fun h hl=>by have:=(z2j u).2 h;omega
theorem zn7(u:Nat)(hu:u<9223372036854775808)(lo hi:Int):parseNum (ag3 u) lo hi=if(u:Int)<lo∨(u:Int)>hi then gy 0 10 0 else gy u 0 0:=by
 unfold parseNum;rw[if_neg (MQ u),if_neg (by rw[zhq (jy u)];omega),if_neg (fun h=>zze u h.1 h.2),qn];by_cases h:(u:Int)<lo∨(u:Int)>hi
 ·rw[if_pos h,if_pos (ahD h)]
 ·rw[if_neg h,if_neg (by omega)]
theorem zfc{s:List UInt8}{lo hi:Int}(h:(parseNum s lo hi).2.1.1=0):(parseNum s lo hi).2.1.2.1=0∧(parseNum s lo hi).1=(val s:Int)∧val s<9223372036854775808∧lo≤(val s:Int)∧(val s:Int)≤hi∧cz s∧Norm s:=by
 unfold parseNum at h ⊢;by_cases h0:s=[]
 ·rw[if_pos h0]at h;cases h
 rw[if_neg h0]at h ⊢;by_cases h1:0≤eu ef 0 s
 ·rw[if_pos h1]at h;cases h
 rw[if_neg h1]at h ⊢;by_cases h2:s.head? = some 48∧1<s.length
 ·rw[if_pos h2]at h;cases h
 rw[if_neg h2]at h ⊢;by_cases h3:9223372036854775808≤val s∨(val s:Int)<lo∨(val s:Int)>hi
 ·rw[if_pos h3]at h;cases h
 rw[if_neg h3];refine⟨rfl,rfl,by omega,by omega,by omega,M4 h1,h0,fun h => ?_⟩;have h4:¬1<s.length:=fun hl=>h2 ⟨h,hl⟩;have:0<s.length:=ahS.2 h0;omega
end Go.AM
namespace Go.AM
def fA(k:Nat):List UInt8:=(ag3 (1000000+k)).drop 1
theorem nF{k:Nat}(h:k<1000000):ag3 (1000000+k)=49::fA k∧(fA k).length=6∧cz (fA k)∧val (fA k)=k:=by
 have hN:(ag3 (1000000+k)).length=7:=by rw[zgm];exact Lib.nDigits_unique 6 _ (by omega) (by omega)
 have hd:=jy (1000000+k);have hv:=qn (1000000+k);unfold fA;cases e:ag3 (1000000+k)with
 |nil=>rw[e]at hN;simp at hN
 |cons b r =>
  rw[e]at hN hd hv;have hr:r.length=6:=by simpa using hN
  obtain⟨d1,d2⟩:=jz.1 hd;have:=Kv d2;rw[hr]at this;rw[la,hr]at hv;have hb:dv b=1:=by omega
  have:b=49:=MM d1 rfl hb;subst this;refine⟨rfl,hr,d2,?_⟩;show val r=k;omega
def ct(k:Int):List UInt8×Int×Unit:=
 if k<1∨k>1000000 then([],10,())else if k=1000000 then([49],0,())else([48,46]++db (fA k.toNat),0,())
theorem zgq(n:Nat)(k:Int):F.wE n k=some (ct k):=by
 unfold F.wE ct;by_cases h1:k<1
 ·rw[zd h1,if_pos (ahJ h1)]
 rw[ze h1];by_cases h2:k>1000000
 ·rw[zd h2,if_pos (ahD h2)]
 rw[ze h2,if_neg (by omega)];by_cases h3:k=1000000
 ·subst h3;rfl
 have e3:(k==1000000)=false:=by simpa using h3
 rw[e3,cond_false,if_neg h3,zh (by omega)];obtain⟨p1,p2,p3,p4⟩:=nF (k:=k.toNat) (by omega);have hi:O.itoa n (1000000+k)=some (49::fA k.toNat):=by
  unfold O.itoa;have:(decide (-9223372036854775808≤1000000+k)&&decide (1000000+k≤9223372036854775807))=true:=by simp;omega
  rw[this,cond_true];unfold Lib.itoa;rw[if_neg (by omega),show(1000000+k).toNat=1000000+k.toNat from by omega,p1]
 rw[hi,za];have nM:sub (49::fA k.toNat) 1 (((49::fA k.toNat).length:Nat):Int)=some (fA k.toNat):=by have:=zv (49::fA k.toNat) 1 (49::fA k.toNat).length (by simp) (by simp);rw[ahT]at this;exact this
 rw[nM,za];unfold O.od;have hb:(Nat.blt (48:UInt8).toNat 128&&aiz (fA k.toNat).length eP)=true:=by rw[p2];rfl
 simp only[hb,cond_true,za,zlc];rw[zd];have:=Cb (fA k.toNat);rw[zr];omega
def du(s:List UInt8):Cm:=
 if s=[49]then gy 1000000 0 0 else if s=[]then gy 0 13 0 else if s.head? ≠ some 48 then gy 0 11 0 else if(s.drop 1).head? ≠ some 46 then gy 0 11 1
 else if s.drop 2=[]then gy 0 13 2 else if 0≤eu ef 0 (s.drop 2)then gy 0 14 (2+eu ef 0 (s.drop 2))else if 6<(s.drop 2).length then gy 0 12 8
 else if val (s.drop 2)=0 then gy 0 10 0 else gy ((val (s.drop 2)*10 ^ (6 - (s.drop 2).length):Nat):Int) 0 0
theorem zkb(n:Nat)(X:Type)(k3:Int→Int→Int→Int→Int→Int→Int→Option X)(d:List UInt8)(hd:cz d)(hl:d.length≤6)(a b c e f g:Int):∀(j i m:Nat),i+j=6→j<m →
 F.zx.xV n k3 m d (i:Int) a b c e f g (val ((d++ahg (6 - d.length) 48).take i):Int)=k3 a b c e f g ((val d*10 ^ (6 - d.length):Nat):Int):=by
 have hD:cz (d++ahg (6 - d.length) 48):=zt.2 ⟨hd,k_ _⟩;have hL:(d++ahg (6 - d.length) (48:UInt8)).length=6:=by simp;omega
 intro j;induction j with
 |zero =>
  intro i m hi hm;cases m with
  |zero=>omega
  |succ m =>show F.zx.xV.step n _ k3 d _ _ _ _ _ _ _ _=_;unfold F.zx.xV.step;rw[ze (by omega),List.take_of_length_le (by omega),oN]
 | succ j ih =>
  intro i m hi hm;cases m with
  |zero=>omega
  | succ m =>
   show F.zx.xV.step n (F.zx.xV n k3 m) k3 d _ _ _ _ _ _ _ _=_;unfold F.zx.xV.step;rw[zd (by omega),zi (by omega)];have hb:val ((d++ahg (6 - d.length) 48).take i)<10 ^ i:=by have:=Kv (zgk i hD);rw[List.length_take,hL,Nat.min_eq_left (by omega)]at this;exact this
   have hp:(10:Nat) ^ i≤10 ^ 6:=Nat.pow_le_pow_right (by omega) (by omega);have vo:∀x,(d++ahg (6 - d.length) (48:UInt8))[i]? = some x→val ((d++ahg (6 - d.length) 48).take (i+1))=val ((d++ahg (6 - d.length) 48).take i)*10+dv x:=by intro x hx;rw[aiH,hx];exact MO _ _
   by_cases bo:i<d.length
   ·have hx:(d++ahg (6 - d.length) (48:UInt8))[i]? = d[i]?:=List.getElem?_append_left bo;rw[zd (by omega),qh bo,za];have hg:d[i]? = some d[i]:=by simp[bo]
    have MT:=ahr.1 hd d[i] (List.getElem_mem bo);have hdi:=nq.1 MT;have hv:=vo d[i] (hx.trans hg);have Dk:=ML MT;have h8:ag4 .i64 (ag4 .u8 ((d[i].toNat:Int) - 48))=(dv d[i]:Int):=by rw[IntWalk.u8_in _ (by omega),zh (by omega)];unfold dv;omega
    rw[h8,zh (x:=10*_) (by omega),zh (by omega),show 10*(val ((d++ahg (6 - d.length) (48:UInt8)).take i):Int)+(dv d[i]:Int)=(val ((d++ahg (6 - d.length) (48:UInt8)).take (i+1)):Int)from by omega];exact ih (i+1) m (by omega) (by omega)
   ·have hx:(d++ahg (6 - d.length) (48:UInt8))[i]? = some 48:=by rw[List.getElem?_append_right (by omega),List.getElem?_replicate,if_pos (by omega)]
    have hv:=vo 48 hx;rw[zsa]at hv;rw[ze (by omega),zh (x:=10*_) (by omega),zh (by omega),show 10*(val ((d++ahg (6 - d.length) (48:UInt8)).take i):Int)+0=(val ((d++ahg (6 - d.length) (48:UInt8)).take (i+1)):Int)from by omega];exact ih (i+1) m (by omega) (by omega)
theorem zkc(n:Nat)(X:Type)(k0:List UInt8→Int→Int→Int→Int→Option X)(s:List UInt8)(m:Nat)(hm:3≤m) :
 F.zx.L5 n k0 m s (48,46,()) 0 0 0 0 0=if s=[]then k0 s 0 0 13 0 else if s.head? ≠ some 48 then k0 s 0 0 11 0 else if(s.drop 1).head? ≠ some 46 then k0 s 0 0 11 1 else k0 s 0 0 0 0:=by
 obtain⟨m,rfl⟩:∃q,m=q+3:=⟨m - 3,by omega⟩;show F.zx.L5.step n (F.zx.L5 n k0 (m+2)) k0 s _ _ _ _ _ _=_;have hb:∀(b c:UInt8),((b.toNat:Int)==(c.toNat:Int))=decide (b=c):=by
  intro b c;by_cases h:b=c
  ·simp[h]
  ·have:¬(b.toNat:Int)=(c.toNat:Int):=fun hh=>h (znl (by omega));simp[h,this]
 cases s with
 |nil=>rfl
 | cons b r =>
  have e48:((b.toNat:Int)==48)=decide (b=48):=hb b 48;unfold F.zx.L5.step;have a1:decide ((0:Int)<2)=true:=rfl;have a2:((0:Int)==0)=true:=rfl;have a3:((0:Int)==(((b::r).length:Nat):Int))=false:=by
   have:¬(0:Int)=(((b::r).length:Nat):Int):=by simp;omega
   simpa using this
  have a4:decide ((0:Int)≥(((b::r).length:Nat):Int))=false:=by
   have:¬(0:Int)≥(((b::r).length:Nat):Int):=by simp only[ag0];omega
   exact decide_eq_false this
  have a5:idx (b::r) (0:Int)=some b:=rfl;rw[a1,a2,a3,a4,a5,cond_true,cond_true,cond_false,cond_false,za,e48];by_cases h1:b=48
  ·subst h1;simp only[decide_true,ag5,cond_false];show F.zx.L5.step n (F.zx.L5 n k0 (m+1)) k0 _ _ 1 _ _ _ _=_;unfold F.zx.L5.step;have c1:decide ((1:Int)<2)=true:=rfl;have c2:((1:Int)==0)=false:=rfl;have c3:((1:Int)==1)=true:=rfl;rw[c1,c2,c3,cond_true,cond_false,cond_true];cases r with
   |nil=>rfl
   | cons c r =>
    have e46:((c.toNat:Int)==46)=decide (c=46):=hb c 46;have b3:((1:Int)==(((48::c::r).length:Nat):Int))=false:=by
     have:¬(1:Int)=(((48::c::r).length:Nat):Int):=by simp;omega
     simpa using this
    have b4:decide ((1:Int)≥(((48::c::r).length:Nat):Int))=false:=by
     have:¬(1:Int)≥(((48::c::r).length:Nat):Int):=by simp;omega
     simpa using this
    have b5:idx (48::c::r) (1:Int)=some c:=rfl;rw[b3,b4,b5,cond_false,cond_false,za,e46];by_cases h2:c=46
    ·subst h2;rfl
    ·simp[h2]
  ·simp[h1]
theorem zn8(n : Nat)(hn:100≤n)(s:List UInt8)(hs:s.length≤1000000)(hl:s.length<n):F.zx n s=some (du s):=by
 unfold F.zx du;by_cases h1:s=[49]
 ·rw[if_pos h1,h1];rfl
 have e1:(s==[49])=false:=by simpa using h1
 rw[e1,cond_false,if_neg h1,zkc n _ _ s n (by omega)];by_cases h2:s=[]
 ·rw[if_pos h2,if_pos h2];rfl
 rw[if_neg h2,if_neg h2];by_cases h3:s.head? ≠ some 48
 ·rw[if_pos h3,if_pos h3];rfl
 rw[if_neg h3,if_neg h3];by_cases h4:(s.drop 1).head? ≠ some 46
 ·rw[if_pos h4,if_pos h4];rfl
 rw[if_neg h4,if_neg h4];have e2:(!((0:Int)==0&&(0:Int)==0))=false:=rfl;simp only[e2,cond_false];have hlen:2≤s.length:=by
  cases s with
  |nil=>exact absurd rfl h2
  |cons b r=>cases r with
   |nil=>simp at h4
   |cons=>simp
 have nM:sub s 2 (s.length:Int)=some (s.drop 2):=by have:=zv s 2 s.length hlen (aif _);rw[ahT]at this;exact this
 have Dk:(s.drop 2).length+2=s.length:=by simp;omega
 rw[nM,za,qo n 4 _ _ _ (by omega) (by omega),za,Ez _ (by omega)];generalize s.drop 2=d at Dk ⊢;by_cases h5:d=[]
 ·rw[if_pos h5,if_pos h5];rfl
 rw[if_neg h5,if_neg h5];by_cases h6:0≤eu ef 0 d
 ·rw[if_pos h6,if_pos h6];have:=zq0 ef 0 d;have e:(!((14:Int)==0&&eu ef 0 d==0))=true:=rfl;simp only[e,cond_true,zzd,za];rw[zh (by omega)];rfl
 rw[if_neg h6,if_neg h6];simp only[e2,cond_false];have hd:=M4 h6;by_cases h7:6<d.length
 ·rw[zd (by omega),if_pos h7];rfl
 rw[ze (by omega),if_neg h7];have:=zkb n _ (fun abO abP abQ abR abS abT zM =>
  bif zM==(0:Int)then
   (F.jM n (10:Int) (0:Int)).bind fun Dp =>some ((Dp.1,(Dp.2.1.1,Dp.2.1.2.1,()),()))
  else
   some ((zM,((0:Int),(0:Int),()),()))) d hd (by omega) 0 0 0 0 0 0 6 0 n (by omega) (by omega)
 refine this.trans ?_;have hpp:0<10 ^ (6 - d.length):=aiC (by omega);by_cases h8:val d=0
 ·rw[if_pos h8,h8,Nat.zero_mul];rfl
 ·rw[if_neg h8];have:¬((val d*10 ^ (6 - d.length):Nat):Int)=0:=by have:=Nat.mul_pos (aiE h8) hpp;omega
  have e:(((val d*10 ^ (6 - d.length):Nat):Int)==0)=false:=by simpa using this
  rw[e,cond_false];rfl
end Go.AM
namespace Go.AM
theorem zll(d:List UInt8):du (48::46::d)=if d=[]then gy 0 13 2 else if 0≤eu ef 0 d then gy 0 14 (2+eu ef 0 d)else if 6<d.length then gy 0 12 8
 else if val d=0 then gy 0 10 0 else gy ((val d*10 ^ (6 - d.length):Nat):Int) 0 0:=by
 unfold du;rw[if_neg (by simp),if_neg (by simp),if_neg (by simp),if_neg (by simp)];rfl
theorem zlm(k:Int)(hk:1≤k∧k<1000000)(z:Nat):du (48::46::(db (fA k.toNat)++ahg z 48))=if(db (fA k.toNat)).length+z≤6 then gy k 0 0 else gy 0 12 8:=by
 obtain⟨p1,p2,p3,p4⟩:=nF (k:=k.toNat) (by omega);have hd:cz (db (fA k.toNat)++ahg z 48):=zt.2 ⟨sT p3,k_ _⟩;have c_:db (fA k.toNat)≠[]:=fun hh=>by have:=(zj7 p3).1 hh;omega
 have hlen:(db (fA k.toNat)++ahg z (48:UInt8)).length=(db (fA k.toNat)).length+z:=by simp
 rw[zll,if_neg (by simp[c_]),if_neg (by rw[zhq hd];omega),hlen];have ur:=Di (fA k.toNat);have hv:val (db (fA k.toNat))*10 ^ (6 - (db (fA k.toNat)).length)=k.toNat:=by rw[p2]at ur;have:=congrArg val ur;rw[oN,p4]at this;exact this.symm
 have qF:¬val (db (fA k.toNat))=0:=fun h=>by rw[h]at hv;omega
 have hle:=Cb (fA k.toNat);by_cases h:(db (fA k.toNat)).length+z≤6
 ·rw[if_neg (by omega),if_pos h,oN];have hp:0<10 ^ z:=aiC (by omega);rw[if_neg (by have:=Nat.mul_pos (aiE qF) hp;omega),Nat.mul_assoc,←Nat.pow_add,show z+(6 - ((db (fA k.toNat)).length+z))=6 - (db (fA k.toNat)).length from by omega,hv];rw[show((k.toNat:Nat):Int)=k from by omega]
 ·rw[if_pos (by omega),if_neg h]
theorem rP{k:Int}(hk:1≤k∧k<1000000):ct k=(48::46::db (fA k.toNat),0,()):=by unfold ct;rw[if_neg (by omega),if_neg (by omega)];rfl
theorem zkd{s:List UInt8}(h:(du s).2.1.1=0):(du s).2.1.2.1=0∧1≤(du s).1∧(du s).1≤1000000∧(ct (du s).1).2.1=0 ∧
 ∃a j,s=a++ahg j 48∧(ct (du s).1).1=a∧a≠[]∧(∀x,a.getLast? = some x→x≠48):=by
 by_cases h1:s=[49]
 ·subst h1;exact⟨rfl,by decide,by decide,rfl,[49],0,rfl,rfl,by simp,by simp⟩
 have e:=h;unfold du at e;rw[if_neg h1]at e;by_cases h2:s=[]
 ·rw[if_pos h2]at e;cases e
 rw[if_neg h2]at e;by_cases h3:s.head? ≠ some 48
 ·rw[if_pos h3]at e;cases e
 rw[if_neg h3]at e;by_cases h4:(s.drop 1).head? ≠ some 46
 ·rw[if_pos h4]at e;cases e
 clear e;obtain⟨d,rfl⟩:∃d,s=48::46::d:=by
  cases s with
  |nil=>exact absurd rfl h2
  |cons b r=>cases r with
   |nil=>simp at h4
   |cons c r =>simp at h3 h4;exact⟨r,by rw[h3,h4]⟩
 rw[zll]at h ⊢;by_cases g1:d=[]
 ·rw[if_pos g1]at h;cases h
 rw[if_neg g1]at h ⊢;by_cases g2:0≤eu ef 0 d
 ·rw[if_pos g2]at h;cases h
 rw[if_neg g2]at h ⊢;by_cases g3:6<d.length
 ·rw[if_pos g3]at h;cases h
 rw[if_neg g3]at h ⊢;by_cases g4:val d=0
 ·rw[if_pos g4]at h;cases h
 rw[if_neg g4];have hd:=M4 g2;have hp:0<10 ^ (6 - d.length):=aiC (by omega);have oA:=Nat.mul_pos (aiE g4) hp;have hub:val d*10 ^ (6 - d.length)<1000000:=by have h5:=Kv (zt.2 ⟨hd,k_ (6 - d.length)⟩);rw[oN,ag1,List.length_replicate,show d.length+(6 - d.length)=6 from by omega]at h5;exact h5
 have hk:1≤((val d*10 ^ (6 - d.length):Nat):Int)∧((val d*10 ^ (6 - d.length):Nat):Int)<1000000:=by omega
 have hf:=rP hk;obtain⟨p1,p2,p3,p4⟩:=nF hub;have hpd:fA (val d*10 ^ (6 - d.length))=d++ahg (6 - d.length) 48:=z2i p3 (zt.2 ⟨hd,k_ _⟩) (by simp;omega) (by rw[p4,oN]);have ht:db (fA (val d*10 ^ (6 - d.length)))=db d:=by rw[hpd,zld]
 have c_:db d≠[]:=fun hh=>g4 ((zj7 hd).1 hh);show(0:Int)=0∧_∧_∧(ct ((val d*10 ^ (6 - d.length):Nat):Int)).2.1=0∧∃a j,_∧(ct ((val d*10 ^ (6 - d.length):Nat):Int)).1=a∧_;rw[hf];refine⟨rfl,hk.1,by show((val d*10 ^ (6 - d.length):Nat):Int)≤1000000;omega,rfl,48::46::db d,d.length - (db d).length,?_,?_,by simp,?_⟩
 ·rw[ah1,ah1,←Di]
 ·show 48::46::db (fA (val d*10 ^ (6 - d.length)))=_;rw[ht]
 ·intro x hx;refine MR (l:=d) ?_;rw[←hx];cases e:db d with
  |nil=>exact absurd e c_
  |cons b r=>simp[List.getLast?_cons]
end Go.AM
namespace Go.AM
def uv(t:ah):Prop:=t.1.length≤1000∧t.2.length≤1000
theorem kL{c:Int}{s:List UInt8}{lo hi:Int}(h:(eS c s lo hi).1=0):lo≤(s.length:Int)∧(s.length:Int)≤hi∧s.all (cls c)=true:=by
 unfold eS at h;split at h
 ·cases h
 ·split at h
  ·cases h
  ·split at h
   ·cases h
   ·split at h
    ·cases h
    ·rename_i h1 h2 h3 h4;exact⟨by omega,by omega,ahE fun hh=>h4 ((Fl _ _ _).2 hh)⟩
theorem zjc{t:ah}(h:dm t=true):uv t:=by unfold dm at h;simp only[ahd,beq_iff_eq]at h;have h1:=kL h.1;have h2:=kL h.2;exact⟨by omega,by omega⟩
theorem rm{X:Type}{a b:Nat}(h:a+b≤1000000)(y:Option X):(bif decide (a+b≤ai)then y else none)=y:=by rw[decide_eq_true (by rw[zr];omega)];rfl
theorem vq{X:Type}{a b:Nat}(h:a+b≤1000000)(y:Option X):(bif decide ((a+b)*1≤2 ^ 46)&&decide (0<1∧1≤2 ^ 20)then y else none)=y:=by rw[decide_eq_true (by omega)];rfl
theorem Dr{X:Type}{a:Nat}(h:a≤1000000)(y:Option X):(bif decide ((a+1)*16≤2 ^ 46)&&decide (0<16∧16≤2 ^ 20)then y else none)=y:=by rw[decide_eq_true (by omega)];rfl
def nu(k:Int):List UInt8:=if k=1 then[99]else if k=2 then[103]else if k=3 then[109,115]else if k=4 then[104]else if k=5 then[100]else[]
theorem M5{k:Int}(h:iD k=true):k=1∨k=2∨k=3∨k=4∨k=5:=by unfold iD at h;simp only[ahd,decide_eq_true_eq]at h;omega
theorem z2v(n:Nat)(k:Int):F.uP n k=some (if iD k then(nu k,0,())else([],16,())):=by
 unfold F.uP;by_cases h1:k<1
 ·have:iD k=false:=by unfold iD;rw[decide_eq_false (by omega)];rfl
  rw[zd h1,this];rfl
 ·rw[ze h1];by_cases h2:k>5
  ·have:iD k=false:=by unfold iD;rw[decide_eq_false (by omega:¬k≤5),Bool.and_false]
   rw[zd h2,this];rfl
  ·have hk:k=1∨k=2∨k=3∨k=4∨k=5:=by omega
   rw[ze h2];rcases hk with rfl|rfl|rfl|rfl|rfl<;>rfl
theorem zjd(k:Int):(nu k).length≤2:=by
 unfold nu;repeat' split
 all_goals decide
def jq(d:az):List UInt8:=fV d.1 d.2.1.toNat d.2.2
def iP(vs:List az):List UInt8:=(vs.map fun d=>58::jq d).flatten
def ga(t:ah):List UInt8:=if t.2=[]then t.1 else t.1++([58]++t.2)
def gP(ts:List ah):List UInt8:=aic (ts.map ga) [44]
def mj(r:Int):List UInt8:=if r=1000000 then[]else[124,64]++(ct r).1
def om(ts:List ah):List UInt8:=if ts=[]then[]else[124,35]++gP ts
def ny(t:Int):List UInt8:=if t=0 then[]else[124,84]++ag3 t.toNat
def pK(m:bh):List UInt8:=m.1++iP m.2.2.1++([124]++nu m.2.1)++mj m.2.2.2.1++om m.2.2.2.2.1++ny m.2.2.2.2.2.1
theorem zn9{vs:List az}(h:∀d∈vs,de d∧fy d=0):(iP vs).length≤40*vs.length:=by
 induction vs with
 |nil=>simp[iP]
 |cons d vs ih =>
  have:=Fq (h d (by simp)).1 (h d (by simp)).2;have h2:=ih (fun x hx=>h x (ahH _ hx));have e:(iP (d::vs)).length=(jq d).length+1+(iP vs).length:=by simp[iP];omega
  have e2:(jq d).length≤39:=this;simp only[ag0];omega
theorem z2w{t:ah}(h:uv t):(ga t).length≤2001:=by unfold ga;have:=h.1;have:=h.2;split<;>simp<;>omega
theorem zq5(sep:List UInt8)(b:Nat):∀l:List (List UInt8),(∀x∈l,x.length≤b)→(aic l sep).length≤l.length*(b+sep.length):=by
 intro l h;cases l with
 |nil=>simp[aic]
 | cons x l =>
  rw[ais];have:∀l:List (List UInt8),(∀x∈l,x.length≤b)→(aht sep l).length≤l.length*(b+sep.length):=by
   intro l;induction l with
   |nil=>intro _;simp[aht]
   |cons y l ih =>
    intro h;have h1:=ih (fun x hx=>h x (ahH _ hx));have h2:=h y (by simp);have:aht sep (y::l)=sep++y++aht sep l:=by simp[aht]
    rw[this,ag1,ag1,ag0,Nat.add_mul];omega
  have h1:=this l (fun x hx=>h x (ahH _ hx));have h2:=h x (by simp);rw[ag1,ag0,Nat.add_mul];omega
theorem zje{ts:List ah}(h:∀t∈ts,uv t)(hl:ts.length≤32):(gP ts).length≤70000:=by unfold gP;have:=zq5 [44] 2001 (ts.map ga) (fun x hx=>by obtain⟨t,ht,rfl⟩:=aih.1 hx;exact z2w (h t ht));rw[aiL]at this;have h2:ts.length*(2001+[(44:UInt8)].length)≤32*2002:=Nat.mul_le_mul_right _ hl;omega
theorem zoa(n:Nat)(hn:200000≤n)(X:Type)(k0:List (List UInt8)→Nat→Option X)(kr:List UInt8→Int→Int→Option X)(ts:List ah)(hl:ts.length≤1000)(cb:∀t∈ts,uv t∧dm t=true):∀(r:List ah)(acc:List (List UInt8))(i m:Nat),ts.drop i=r→acc.length≤i→i≤ts.length→r.length<m →
 F.la.L3 n k0 kr m acc ts (ts.length:Int) (i:Int) acc.length=k0 (acc++r.map ga) (acc++r.map ga).length:=by
 intro r;induction r with
 |nil =>intro acc i m h1 h2 hi hm;obtain⟨m,rfl⟩:∃q,m=q+1:=⟨m - 1,by omega⟩;rw[F.la.L3];unfold F.la.L3.step;dsimp only;rw[ze (by have:=zm h1;omega)];simp
 | cons t r ih =>
  intro acc i m h1 h2 hi hm;obtain⟨m,rfl⟩:∃q,m=q+1:=⟨m - 1,by simp at hm;omega⟩;obtain⟨l1,g1,t1⟩:=zl h1;simp only[ag0]at hm;obtain⟨ht,hg⟩:=cb t (ahx g1);have a1:=ht.1;have a2:=ht.2;have yV:=ih (acc++[ga t]) (i+1) m t1 (by simp;omega) (by omega) (by omega);have e:acc++[ga t]++r.map ga=acc++(t::r).map ga:=by simp
  rw[e]at yV;rw[F.la.L3];unfold F.la.L3.step;dsimp only;rw[zd (by omega),zp,g1,za,zj9 n hn ⟨by omega,by omega⟩,za,hg,cond_true];rw[zi (by omega),ahf,Dr (by omega),Dr (by omega)];simp only[beq_self_eq_true,ag5,cond_false,cond_true];by_cases h0:t.2=[]
  ·rw[h0,beq_self_eq_true,ag5,cond_false];have e1:ga t=t.1:=by unfold ga;rw[if_pos h0]
   rw[e1]at yV;exact yV
  ·rw[beq_eq_false_iff_ne.2 h0,ahc,cond_true,rm (by omega),rm (by simp only[ag1,ag0,ag9];omega)];have e1:ga t=t.1++([58]++t.2):=by unfold ga;rw[if_neg h0]
   rw[e1]at yV;exact yV
theorem zsj(n:Nat)(hn:200000≤n)(ts:List ah)(hl:ts.length≤32)(cb:∀t∈ts,uv t∧dm t=true):F.la n ts=some (gP ts,0,0,()):=by
 unfold F.la;refine(zoa n hn _ _ _ ts (by omega) cb ts [] 0 n rfl (by simp) (by omega) (by omega)).trans ?_;have e1:O.join n (ts.map ga) [44]=some (gP ts):=by
  unfold O.join;have h2:=zje (fun t ht=>(cb t ht).1) hl;unfold gP at h2;have:(aiz (ts.map ga).length eP&&aiz (aic (ts.map ga) [44]).length eP)=true:=by simp only[ahd,jZ,eP,aiL];omega
  rw[this,cond_true];rfl
 show(O.join n (ts.map ga) [44]).bind _=_;rw[e1];rfl
end Go.AM
namespace Go.AM
theorem M6{k r:Int}(h:ic k r=true):(mj r).length≤20∧(ct r).2.1=0∧1≤r∧r≤1000000:=by
 have hr:1≤r∧r≤1000000:=by unfold ic at h;simp only[ahd,decide_eq_true_eq]at h;exact⟨h.1,h.2.1⟩
 by_cases e:r=1000000
 ·subst e;exact⟨by decide,by decide,by omega,by omega⟩
 ·have hf:=rP (k:=r) ⟨hr.1,by omega⟩;have h6:=(nF (k:=r.toNat) (by omega)).2.1;have ht:=Cb (fA r.toNat);unfold mj;rw[if_neg e,hf];refine⟨?_,rfl,hr⟩;simp only[ag1,ag0,ag9];omega
theorem zig{t:Int}(h:iE t=true):(ny t).length≤24∧0≤t∧t≤1099511627776:=by
 have hr:0≤t∧t≤1099511627776:=by unfold iE at h;simpa only[ahd,decide_eq_true_eq]using h
 refine⟨?_,hr⟩;have:=KM (c:=t.toNat) (by rw[mT];omega);unfold ny;split
 ·simp
 ·simp only[ag1,ag0,ag9];omega
structure fT (m:bh):Prop where
 ok:iF m
 A8:jm m=0
theorem M7{m:bh}(h:fT m):(∀d∈m.2.2.1,de d∧fy d=0)∧1≤m.2.2.1.length∧m.2.2.1.length≤64:=by have:=(vd h.A8).2.2.1;unfold mh at this;simp only[ahd,decide_eq_true_eq]at this;refine⟨fun d hd=>⟨h.ok.2.1.2 d hd,?_⟩,this.1,this.2.1⟩;simpa using ahr.1 this.2.2 d hd
theorem zjf{m:bh}(h:fT m):(∀t∈m.2.2.2.2.1,uv t∧dm t=true)∧m.2.2.2.2.1.length≤32:=by have:=(vd h.A8).2.2.2.2.1;unfold ns at this;simp only[ahd,decide_eq_true_eq]at this;exact⟨fun t ht=>⟨zjc (ahr.1 this.2 t ht),ahr.1 this.2 t ht⟩,this.1⟩
theorem uf{s:List UInt8}(h:cX s=true):1≤s.length∧s.length≤200:=by rw[KQ]at h;simp only[ahd,decide_eq_true_eq]at h;exact h.2
theorem zu9(n:Nat)(hn:200000≤n)(X:Type)(k0:List UInt8→Int→List az→Int→List ah→Int→(Nat×List UInt8)→(Nat×Nat)→Int→Option X)(b0:List UInt8)(b1:Int)(b2:List az)(b3:Int)(b4:List ah)(b5:Int)(vs:List az)(hl:vs.length≤100)(cb:∀d∈vs,de d∧fy d=0):∀(r:List az)(acc:List UInt8)(v i m:Nat),vs.drop i=r→acc.length≤1000+i*40→i≤vs.length→r.length<m →
 ∃v',F.zk.L9 n k0 m vs (vs.length:Int) (i:Int) b0 b1 b2 b3 b4 b5 (v,acc) (v,acc.length) 0=k0 b0 b1 b2 b3 b4 b5 (v',acc++iP r) (v',(acc++iP r).length) 0:=by
 intro r;induction r with
 |nil =>intro acc v i m h1 h2 hi hm;obtain⟨m,rfl⟩:∃q,m=q+1:=⟨m - 1,by omega⟩;refine⟨v,?_⟩;rw[F.zk.L9];unfold F.zk.L9.step;dsimp only;rw[ze (by have:=zm h1;omega)];simp[iP]
 |cons d r ih =>intro acc v i m h1 h2 hi hm;obtain⟨m,rfl⟩:∃q,m=q+1:=⟨m - 1,by simp at hm;omega⟩;obtain⟨l1,g1,t1⟩:=zl h1;simp only[ag0]at hm;obtain⟨hd,h0⟩:=cb d (ahx g1);have hlen:(jq d).length≤39:=Fq hd h0;have hT:F.qo n (d.1,d.2.1,d.2.2,())=some (jq d,0,()):=zfb n hn hd h0;obtain⟨v',hv⟩:=ih (acc++([58]++jq d)) (v+1) (i+1) m t1 (by simp only[ag1,ag0,ag9];omega) (by omega) (by omega);refine⟨v',?_⟩;rw[F.zk.L9];unfold F.zk.L9.step;dsimp only;rw[zd (by omega),zp,g1,za,hT,za,zi (by omega)];dsimp only;rw[beq_self_eq_true,cond_true,rm (by omega),ahf,cond_true,vq (by simp only[ag1,ag0,ag9];omega)];rw[hv];simp[iP]
theorem zva(n:Nat)(X:Type)(kr:List UInt8→Int→Option X)(b0:List UInt8)(b1:Int)(b2:List az)(b3:Int)(b4:List ah)(b5:Int)(B:List UInt8)(v l:Nat)(hB:B≠[]):F.zk.E6 n kr b0 b1 b2 b3 b4 b5 (v,B) (v,l) 0=kr B 0:=by
 unfold F.zk.E6;dsimp only;rw[beq_self_eq_true,ag5,cond_false,ahf,cond_true];cases B with
 |nil=>exact absurd rfl hB
 |cons x B=>rfl
theorem zvb(n:Nat)(X:Type)(kr:List UInt8→Int→Option X)(b0:List UInt8)(b1:Int)(b2:List az)(b3:Int)(b4:List ah)(b5:Int)(h5:iE b5=true)(B:List UInt8)(v:Nat)(hB:B≠[])(hl:B.length≤200000):F.zk.E7 n kr b0 b1 b2 b3 b4 b5 (v,B) (v,B.length) 0=kr (B++ny b5) 0:=by
 obtain⟨t1,t2,t3⟩:=zig h5;unfold F.zk.E7 ny;by_cases e:b5=0
 ·rw[e,beq_self_eq_true,ag5,cond_false,if_pos rfl,ahK];exact zva n X _ b0 b1 b2 b3 b4 0 B v _ hB
 ·have hd:F.qp n b5=some (ag3 b5.toNat,0,()):=by rw[zn6 n b5 (by omega)];unfold rl;rw[if_neg (by omega)]
  have Dk:=KM (c:=b5.toNat) (by rw[mT];omega);rw[beq_eq_false_iff_ne.2 e,ahc,cond_true,hd,za,if_neg e];dsimp only;rw[beq_self_eq_true,cond_true,rm (by omega),ahf,cond_true,vq (by simp only[ag1,ag0,ag9];omega)];exact zva n X _ b0 b1 b2 b3 b4 b5 _ _ _ (by simp)
theorem zvc(n:Nat)(hn:200000≤n)(X:Type)(kr:List UInt8→Int→Option X)(b0:List UInt8)(b1:Int)(b2:List az)(b3:Int)(b4:List ah)(b5:Int)(h5:iE b5=true)(rK:b4.length≤32)(ht:∀t∈b4,uv t∧dm t=true)(B:List UInt8)(v:Nat)(hB:B≠[])(hl:B.length≤100000):F.zk.E8 n kr b0 b1 b2 b3 b4 b5 (v,B) (v,B.length) 0=kr (B++om b4++ny b5) 0:=by
 have yG:=zje (fun t jF=>(ht t jF).1) rK;unfold F.zk.E8 om;by_cases e:b4=[]
 ·rw[e,ze (by simp),if_pos rfl,ahK];exact zvb n X _ b0 b1 b2 b3 [] b5 h5 B v hB (by omega)
 ·have hlen:0<b4.length:=ahS.2 e;rw[zd (by omega),zsj n hn b4 rK ht,za,if_neg e];dsimp only;rw[beq_self_eq_true,cond_true,rm (by omega),ahf,cond_true,vq (by simp only[ag1,ag0,ag9];omega)];exact zvb n X _ b0 b1 b2 b3 b4 b5 h5 _ _ (by simp) (by simp only[ag1,ag0,ag9];omega)
theorem z2x(n:Nat)(hn:200000≤n)(X:Type)(kr:List UInt8→Int→Option X)(b0:List UInt8)(b1:Int)(b2:List az)(b3:Int)(b4:List ah)(b5:Int)(k:Int)(h3:ic k b3=true)(h5:iE b5=true)(rK:b4.length≤32)(ht:∀t∈b4,uv t∧dm t=true)(B:List UInt8)(v:Nat)(hB:B≠[])(hl:B.length≤50000):F.zk.ve n kr b0 b1 b2 b3 b4 b5 (v,B) (v,B.length) 0=kr (B++mj b3++om b4++ny b5) 0:=by
 obtain⟨r1,r2,r3,r4⟩:=M6 h3;unfold F.zk.ve;by_cases e:b3=1000000
 ·have:mj b3=[]:=by unfold mj;rw[if_pos e]
  rw[this,ahK,e,beq_self_eq_true,ag5,cond_false];exact zvc n hn X _ b0 b1 b2 1000000 b4 b5 h5 rK ht B v hB (by omega)
 ·have hP:mj b3=[124,64]++(ct b3).1:=by unfold mj;rw[if_neg e]
  have oI:(ct b3).1.length≤20:=by rw[hP]at r1;simp only[ag1,ag0,ag9]at r1;omega
  rw[hP,beq_eq_false_iff_ne.2 e,ahc,cond_true,zgq,za,beq_self_eq_true,cond_true,rm (by omega)];dsimp only;rw[ahf,cond_true,vq (by simp only[ag1,ag0,ag9];omega),r2];exact zvc n hn X _ b0 b1 b2 b3 b4 b5 h5 rK ht _ _ (by simp) (by simp only[ag1,ag0,ag9];omega)
def Ds(m:bh):List UInt8×Int×Unit:=if(fW m).2.1=0 then(pK (fW m).1,0,())else([],(fW m).2.1,())
theorem zef{m:bh}(hm:iF m):(fW m=(jo m,0,())∧fT (jo m))∨(∃e,e≠0∧fW m=(yf,e,())):=by
 unfold fW;by_cases h:jm (oh m)=0
 ·refine ahJ ⟨if_pos h,?_,?_⟩
  ·have hv:=zn4 hm;refine⟨hm.1,hv.2.1,?_,?_⟩
   ·have h1:=MW m.2.2.2.2.1;have h2:=hm.2.2.1;show(jT m.2.2.2.2.1).length≤10000;omega
   ·intro t ht;exact hm.2.2.2 t ((KS _ _).1 ht)
  ·obtain⟨c1,c2,c3,c4,c5,c6⟩:=vd h;have c5':ns (jo m).2.2.2.2.1=true:=by unfold ns at c5 ⊢;simp only[ahd,decide_eq_true_eq]at c5 ⊢;have h1:=MW m.2.2.2.2.1;have h2:m.2.2.2.2.1.length≤32:=c5.1;refine⟨?_,ahr.2 (fun t ht=>ahr.1 c5.2 t ((KS _ _).1 ht))⟩;show(jT m.2.2.2.2.1).length≤32;omega
   unfold jm;have d1:cX (jo m).1=true:=c1;have d2:iD (jo m).2.1=true:=c2;have d3:mh (jo m).2.2.1=true:=c3;have d4:ic (jo m).2.1 (jo m).2.2.2.1=true:=c4;have d6:iE (jo m).2.2.2.2.2.1=true:=c6;rw[d1,d2,d3,d4,c5',d6];rfl
 ·exact ahD ⟨_,h,if_neg h⟩
theorem z2y (n : Nat) (hn : 200000≤n) (m:bh) (hm:iF m):F.zk n m=some (Ds m):=by
 unfold F.zk Ds;have hN:F.zl n (m.1,m.2.1,m.2.2.1,m.2.2.2.1,m.2.2.2.2.1,m.2.2.2.2.2.1,())=some (fW m):=zdp n hn m hm;rw[hN,za];rcases zef hm with⟨h1,hR⟩ |⟨e,he,h1⟩
 ·rw[h1];generalize jo m=f at hR;obtain⟨hv,yF,EV⟩:=M7 hR;obtain⟨ht,kZ⟩:=zjf hR;obtain⟨c1,c2,c3,c4,c5,c6⟩:=vd hR.A8;have ma:=uf c1;have CC:=zn9 hv;obtain⟨nm,k,vs,r,ts,t,_⟩:=f;dsimp only at hv yF EV ht kZ c1 c2 c3 c4 c5 c6 ma CC ⊢;rw[beq_self_eq_true,ag5,cond_false,if_pos rfl,rm (by omega),vq (by simp only[ag1,ag9];omega)]
  obtain ⟨v', CX⟩ := zu9 n hn _ (fun fJ kP uo rh rj rk ib oT oS =>
          (F.uP n kP).bind fun y5 =>
           bif oS == (0:Int)then
            bif decide (1+y5.1.length≤ai)then
             bif aij oT.1 ib.1 then
              bif decide ((ib.2.length+((([124])++y5.1).length))*1≤2 ^ 46)&&decide (0<1∧1≤2 ^ 20)then
               F.zk.ve n
                (fun aaT aaU =>some ((aaT,aaU,()))) fJ kP uo rh rj rk (oT.1+1,ib.2++(([124])++y5.1)) (oT.1+1,(ib.2++(([124])++y5.1)).length) y5.2.1
              else
               none
             else
              none
            else
             none
           else
           bif decide (1+y5.1.length≤ai)then
            bif aij oT.1 ib.1 then
             bif decide ((ib.2.length+((([124])++y5.1).length))*1≤2 ^ 46)&&decide (0<1∧1≤2 ^ 20)then
              F.zk.ve n
               (fun aaV aaW =>some ((aaV,aaW,()))) fJ kP uo rh rj rk (oT.1+1,ib.2++(([124])++y5.1)) (oT.1+1,(ib.2++(([124])++y5.1)).length) oS
             else
              none
            else
             none
           else
            none) nm k vs r ts t vs (by omega) hv vs nm 2 0 n rfl (by omega) (by omega) (by omega)
  refine CX.trans ?_;dsimp only;have hws:=zjd k;rw[z2v,c2,if_pos rfl,za];dsimp only;rw[beq_self_eq_true,cond_true,rm (by omega),ahf,cond_true,vq (by simp only[ag1,ag0,ag9];omega)];exact z2x n hn _ _ nm k vs r ts t k c4 c6 kZ ht _ _ (by simp) (by simp only[ag1,ag0,ag9];omega)
 ·rw[h1];dsimp only;rw[if_neg he,beq_eq_false_iff_ne.2 he,ahc,cond_true]
end Go.AM
namespace Go.AM
abbrev KU(α:Type):=Except (Int×Int) α
def lC(s:List UInt8):Int:=if s=[99]then 1 else if s=[103]then 2 else if s=[109,115]then 3 else if s=[104]then 4 else if s=[100]then 5 else 0
theorem z2z(n:Nat)(hn:100≤n)(s:List UInt8):F.nF n s=some (if lC s=0 then(0,16,())else(lC s,0,())):=by
 obtain⟨m,hm⟩:∃q,n=q+7:=⟨n - 7,by omega⟩;unfold F.nF;rw[show F.wK n=some ([],[99],[103],[109,115],[104],[100],())from rfl,za];have L:∀(k0:Unit→Option (Int×Int×Unit))(kr:Int→Int→Option (Int×Int×Unit)),F.nF.L2 n k0 kr (m+7) s ([],[99],[103],[109,115],[104],[100],()) (0:Int)=if s=[99]then kr 1 0 else if s=[103]then kr 2 0 else if s=[109,115]then kr 3 0 else if s=[104]then kr 4 0 else if s=[100]then kr 5 0 else k0 ():=by
  intro k0 kr;have e1:([99]==s)=decide (s=[99]):=by by_cases h:s=[99]<;>simp[h];exact fun h'=>h h'.symm
  have e2:([103]==s)=decide (s=[103]):=by by_cases h:s=[103]<;>simp[h];exact fun h'=>h h'.symm
  have e3:([109,115]==s)=decide (s=[109,115]):=by by_cases h:s=[109,115]<;>simp[h];exact fun h'=>h h'.symm
  have e4:([104]==s)=decide (s=[104]):=by by_cases h:s=[104]<;>simp[h];exact fun h'=>h h'.symm
  have e5:([100]==s)=decide (s=[100]):=by by_cases h:s=[100]<;>simp[h];exact fun h'=>h h'.symm
  show(bif [99]==s then kr 1 0 else bif [103]==s then kr 2 0 else bif [109,115]==s then kr 3 0 else bif [104]==s then kr 4 0 else bif [100]==s then kr 5 0 else k0 ())=_;rw[e1,e2,e3,e4,e5];simp only[vU]
 rw[hm]at L ⊢;refine(L _ _).trans ?_;unfold lC
 repeat' split
 all_goals first|rfl|(simp_all)
def gF:List (List UInt8)→List az→Int→Except Int (List az)
 |[],acc,_ => .ok acc
 |v::r,acc,at_=>if(ag v).2.1.1=0∧acc.length≠64 then gF r (acc++[((ag v).1.1,(ag v).1.2.1,(ag v).1.2.2.1)]) (at_+v.length+1)else .error at_
def dw(c:UInt8)(s:List UInt8):List UInt8:=if c∈s then s.drop ((aX c s).length+1)else[]
def jQ(s:List UInt8):KU (List UInt8×List az):=
 if cX (aX 58 s)=false then .error (15,0)
 else if 58∉s then .error (11,(s.length:Int))
 else match gF (bj 58 (dw 58 s)) [] ((aX 58 s).length+1)with
  |.ok vs => .ok (aX 58 s,vs)
  |.error at_ => .error (17,at_)
def kQ:List (List UInt8)→List ah→Int→Except Int (List ah)
 |[],acc,_ => .ok acc
 |p::r,acc,at_=>if dm (aX 58 p,dw 58 p)=true∧¬(58∈p∧dw 58 p=[])then kQ r (acc++[(aX 58 p,dw 58 p)]) (at_+p.length+1)else .error at_
def jr(m:bh)(last:Int):List UInt8→Except Int (bh×Int)
 |[] => .error 11
 | x :: s =>
  if x=64 then(if 0<last then .error 11 else if(du s).2.1.1≠0∨(m.2.1=2∧(du s).1≠1000000)then .error 18 else .ok ((m.1,m.2.1,m.2.2.1,(du s).1,m.2.2.2.2.1,m.2.2.2.2.2.1,()),1))
  else if x=35 then(if 1<last then .error 11 else match kQ (bj 44 s) [] 0 with
   |.error _ => .error 19
   |.ok l=>if 32<l.length then .error 19 else .ok ((m.1,m.2.1,m.2.2.1,m.2.2.2.1,jT l,m.2.2.2.2.2.1,()),2))
  else if x=84 then(if 2<last then .error 11 else if(parseNum s 1 1099511627776).2.1.1≠0 then .error 20 else .ok ((m.1,m.2.1,m.2.2.1,m.2.2.2.1,m.2.2.2.2.1,(parseNum s 1 1099511627776).1,()),3))
  else .error 11
def kR:List (List UInt8)→Int→bh→Int→KU bh
 |[],_,m,_ => .ok m
 |p::r,at_,m,last=>match jr m last p with
  |.error e => .error (e,at_)
  |.ok (m',aaX)=>kR r (at_+p.length+1) m' aaX
def lV(s p:List UInt8)(nm:List UInt8)(vs:List az):List (List UInt8)→KU bh
 |[] => .error (11,(s.length:Int))
 |q::r=>if lC q=0 then .error (16,(p.length:Int)+1)else kR r ((p.length:Int)+1+(q.length+1)) (nm,lC q,vs,1000000,[],0,()) 0
def nQ(s:List UInt8):List (List UInt8)→KU bh
 |[] => .error (11,0)
 |p::r=>match jQ p with
  |.error e => .error e
  |.ok x=>lV s p x.1 x.2 r
abbrev uw:=bh×(Int×Int×Unit)×Unit
def Cn:KU bh→uw
 |.ok m=>(m,(0,0,()),())
 |.error e=>(yf,(e.1,e.2,()),())
def mU(s:List UInt8):uw:=if 8192<s.length then(yf,(12,0,()),())else Cn (nQ s (bj 124 s))
theorem zob(c:UInt8)(s:List UInt8):(dw c s).length≤s.length:=by unfold dw;split<;>simp
theorem zjg(c:UInt8)(s:List UInt8):bj c s=if c∈s then aX c s::bj c (dw c s)else[s]:=by
 induction s with
 |nil=>rfl
 | cons x s ih =>
  by_cases hx:x=c
  ·subst hx;have e1:aX x (x::s)=[]:=by rw[rQ,if_pos rfl]
   have e2:dw x (x::s)=s:=by unfold dw;rw[if_pos (by simp),e1];rfl
   rw[if_pos (by simp),e1,e2,bj,if_pos rfl]
  ·have fY:(c∈x::s)↔c∈s:=by simp[show ¬c=x from fun h=>hx h.symm]
   rw[bj,if_neg hx,ih];by_cases hc:c∈s
   ·rw[if_pos hc,if_pos (fY.2 hc)];have e1:aX c (x::s)=x::aX c s:=by rw[rQ,if_neg hx]
    have e2:dw c (x::s)=dw c s:=by unfold dw;rw[if_pos hc,if_pos (fY.2 hc),e1];rfl
    rw[e1,e2]
   ·rw[if_neg hc,if_neg (fun h=>hc (fY.1 h))]
def gb(l:List (List UInt8)):Nat:=(l.map fun p=>p.length+1).sum
theorem wL(c:UInt8)(s:List UInt8):gb (bj c s)=s.length+1:=by
 induction s with
 |nil=>rfl
 | cons x s ih =>
  rw[bj];split
  ·simp only[gb,ahy,ahI,ag9,ag0]at ih ⊢;omega
  ·have c_:=xR c s;revert ih c_;cases bj c s with
   |nil=>intro _ h;exact absurd rfl h
   |cons p l =>intro ih _;simp only[gb,ahy,ahI,ag0]at ih ⊢;omega
theorem vf(l:List (List UInt8)):l.length≤gb l:=by
 induction l with
 |nil=>simp[gb]
 |cons p l ih=>simp only[gb,ahy,ahI,ag0]at ih ⊢;omega
theorem KV{l:List (List UInt8)}{p:List UInt8}(h:p∈l):p.length+1≤gb l:=by
 induction l with
 |nil=>cases h
 |cons q l ih =>
  simp only[gb,ahy,ahI]at ih ⊢;rcases ahv.1 h with rfl|h
  ·omega
  ·have:=ih h;omega
theorem zih(n:Nat)(c:UInt8){s:List UInt8}(hs:s.length≤1000000):O.mN n s [c]=some (bj c s):=by unfold O.mN;dsimp only;rw[decide_eq_true (by omega)];rfl
theorem zsk(s:List UInt8):((ag s).2.1.1==0&&(ag s).2.1.2.1==0)=decide ((ag s).2.1.1=0):=by
 by_cases h:(ag s).2.1.1=0
 ·rw[decide_eq_true h,h,KP h];rfl
 ·rw[decide_eq_false h,beq_eq_false_iff_ne.2 h];rfl
theorem zsl(n:Nat)(hn:200000≤n)(X:Type)(k0 kr:List ah→Int→Int→Nat→Option X)(ps:List (List UInt8))(hs:gb ps≤10000)(b0 b1:Int):∀(r:List (List UInt8))(acc:List ah)(a:Int)(i m:Nat),ps.drop i=r→acc.length≤i→i≤ps.length→r.length<m→0≤a→a+gb r≤10000 →
 F.kD.L4 n k0 kr m acc a ps (ps.length:Int) (i:Int) b0 b1 acc.length=match kQ r acc a with
  |.ok l=>k0 l b0 b1 l.length
  |.error e=>kr [] 19 e 0:=by
 intro r;have uU:=vf ps;induction r with
 |nil =>intro acc a i m h1 h2 hi hm ha has;obtain⟨m,rfl⟩:∃q,m=q+1:=⟨m - 1,by omega⟩;rw[F.kD.L4];unfold F.kD.L4.step;dsimp only;rw[ze (by have:=zm h1;omega)];rfl
 | cons p r ih =>
  intro acc a i m h1 h2 hi hm ha has;obtain⟨m,rfl⟩:∃q,m=q+1:=⟨m - 1,by simp at hm;omega⟩;obtain⟨l1,g1,t1⟩:=zl h1;simp only[ag0]at hm;simp only[gb,ahy,ahI]at has;have hp:=KV (ahx g1);have lN:=k9 58 p;have oI:=zob 58 p;have yV:=ih (acc++[(aX 58 p,dw 58 p)]) (a+p.length+1) (i+1) m t1 (by simp;omega) (by omega) (by omega) (by omega) (by simp only[gb];omega);have ua:F.kh n p [58]=some (aX 58 p,dw 58 p,decide (58∈p),()):=rO n 58 (by omega);have hw:ag4 .i64 (a+ag4 .i64 ((p.length:Int)+1))=a+p.length+1:=by rw[zi (by omega),zh (by omega)];omega
  have hg:(decide ((acc.length+1)*32≤2 ^ 46)&&decide (0<32∧32≤2 ^ 20))=true:=by rw[decide_eq_true (by omega)];rfl
  rw[F.kD.L4];unfold F.kD.L4.step;dsimp only;rw[zd (by omega),zp,g1,za,ua,za];dsimp only;have hc:=zj9 n hn (t:=(aX 58 p,dw 58 p)) ⟨by show(aX 58 p).length≤10000;omega,by show(dw 58 p).length≤10000;omega⟩;dsimp only at hc;rw[hc,za,hw,zi (by omega),hg,ahf,cond_true,cond_true,kQ];cases dm (aX 58 p,dw 58 p)
  ·rw[if_neg (by simp)];rfl
  ·rw[cond_true,beq_self_eq_true,ag5,cond_false,vU];by_cases jL:(58:UInt8)∈p
   ·rw[if_pos jL];by_cases h0:dw 58 p=[]
    ·rw[h0,beq_self_eq_true,cond_true,if_neg (by simp[jL])]
    ·rw[beq_eq_false_iff_ne.2 h0,cond_false,if_pos ⟨rfl,by simp[h0]⟩];exact yV
   ·rw[if_neg jL,if_pos ⟨rfl,by simp[jL]⟩];exact yV
theorem zpv(n:Nat)(hn:200000≤n)(s:List UInt8)(hs:s.length≤9000):F.kD n s=some (match kQ (bj 44 s) [] 0 with|.ok l=>(l,(0,0,()),()) |.error e=>([],(19,e,()),())):=by unfold F.kD;have h1:=wL 44 s;have h2:=vf (bj 44 s);rw[zih n 44 (by omega),za];refine(zsl n hn _ _ _ (bj 44 s) (by omega) 0 0 (bj 44 s) [] 0 0 n rfl (by simp) (by omega) (by omega) (by omega) (by omega)).trans ?_;cases kQ (bj 44 s) [] 0<;>rfl
end Go.AM
namespace Go.AM
end Go.AM
namespace Go.AM
theorem uc{c:UInt8}{a:List UInt8}(h:c∉a)(t:List UInt8):aX c (a++c::t)=a:=by
 induction a with
 |nil=>show aX c (c::t)=[];rw[rQ,if_pos rfl]
 |cons b a ih =>show aX c (b::(a++c::t))=_;rw[rQ,if_neg (fun hh=>h (by simp[hh])),ih (fun hh=>h (by simp[hh]))]
theorem wK{c:UInt8}{s:List UInt8}(h:c∈s):s=aX c s++c::s.drop ((aX c s).length+1):=by
 induction s with
 |nil=>simp at h
 | cons b s ih =>
  rw[rQ];by_cases hb:b=c
  ·rw[if_pos hb,hb];rfl
  ·rw[if_neg hb];have hm:c∈s:=by
    rcases ahv.1 h with h|h
    ·exact absurd h.symm hb
    ·exact h
   have:=ih hm;simp only[ag0,List.drop_succ_cons,ah1];rw[←this]
theorem zii(c:UInt8)(s:List UInt8):c∉aX c s:=by
 induction s with
 |nil=>simp[aX]
 | cons b s ih =>
  rw[rQ];by_cases hb:b=c
  ·rw[if_pos hb];simp
  ·rw[if_neg hb];intro hm;rcases ahv.1 hm with h|h
   ·exact hb h.symm
   ·exact ih h
theorem zgr{c:UInt8}{s a t:List UInt8}{p:Nat}(hs:s.drop p=a++c::t)(h:c∉a):fD c s p=p+a.length+1∧s.drop (p+a.length+1)=t:=by
 constructor
 ·unfold fD;rw[hs,uc h,if_pos (by simp)]
 ·rw[Nat.add_assoc,←ail,hs];simp
theorem zvd{c:UInt8}{s a:List UInt8}{p:Nat}(hs:s.drop p=a)(h:c∉a):fD c s p=p+a.length:=by unfold fD;rw[hs,if_neg h,qP h];omega
theorem zve{s:List UInt8}(h:cX s=true):(58:UInt8)∉s:=by rw[KQ]at h;simp only[ahd,ahr]at h;intro hm;have:=h.1 58 hm;revert this;decide
abbrev kS(c a:Int):rb:=(([],0,[],0,[],0,()),(c,a,()),())
end Go.AM
namespace Go.AM
end Go.AM
namespace Go.AM
abbrev KR:=List UInt8→Int→List az→Int→List ah→Int→Int→Int→List UInt8→Int→List az→Int→List ah→Int→Int→Int→Int→Int→Int→Int→Nat→Nat→Nat→Option uw
abbrev K8:=List UInt8→List (List UInt8)→List UInt8→Int→List az→Int→List ah→Int→Int→Int→List UInt8→Int→List az→Int→List ah→Int→Int→Int→Int→Int→Nat→Nat→Nat→Option uw
def ux(e a:Int):uw:=(yf,(e,a,()),())
theorem zsm(n:Nat)(hn:200000≤n)(k1 kr:KR)(ps:List (List UInt8))(hs:gb ps≤9000)
 (c0:List UInt8) (c1:Int) (c2:List az) (c3:Int) (c4:List ah) (c5 d0 d1:Int) (e0:List UInt8) (e1:Int) (e3:Int) (e4:List ah) (e5 e7 f0 f1:Int) (q0 q1:Nat)
 (mB:∀acc a l,kr c0 c1 c2 c3 c4 c5 d0 d1 e0 e1 acc e3 e4 e5 0 e7 f0 f1 17 a q0 q1 l=some (ux 17 a)) :
 ∀(r:List (List UInt8))(acc:List az)(a:Int)(i m:Nat),ps.drop i=r→acc.length≤i→i≤ps.length→r.length<m→0≤a→a+gb r≤10000 →
 F.ze.di n k1 kr m a ps (ps.length:Int) (i:Int) c0 c1 c2 c3 c4 c5 d0 d1 e0 e1 acc e3 e4 e5 0 e7 f0 f1 0 0 q0 q1 acc.length=match gF r acc a with
  |.ok vs=>k1 c0 c1 c2 c3 c4 c5 d0 d1 e0 e1 vs e3 e4 e5 0 e7 f0 f1 0 0 q0 q1 vs.length
  |.error b=>some (ux 17 b):=by
 intro r;have uU:=vf ps;induction r with
 |nil =>intro acc a i m h1 h2 hi hm ha has;obtain⟨m,rfl⟩:∃q,m=q+1:=⟨m - 1,by omega⟩;rw[F.ze.di];unfold F.ze.di.step;dsimp only;rw[ze (by have:=zm h1;omega)];rfl
 | cons p r ih =>
  intro acc a i m h1 h2 hi hm ha has;obtain⟨m,rfl⟩:∃q,m=q+1:=⟨m - 1,by simp at hm;omega⟩;obtain⟨l1,g1,t1⟩:=zl h1;simp only[ag0]at hm;simp only[gb,ahy,ahI]at has;have hp:=KV (ahx g1);have yV:=ih (acc++[((ag p).1.1,(ag p).1.2.1,(ag p).1.2.2.1)]) (a+p.length+1) (i+1) m t1 (by simp;omega) (by omega) (by omega) (by omega) (by simp only[gb];omega);have hw:ag4 .i64 (a+ag4 .i64 ((p.length:Int)+1))=a+p.length+1:=by rw[zi (by omega),zh (by omega)];omega
  have sY:ag4 .i64 (0+a)=a:=by rw[Int.zero_add,zh (by omega)]
  have hg:(decide ((acc.length+1)*24≤2 ^ 46)&&decide (0<24∧24≤2 ^ 20))=true:=by rw[decide_eq_true (by omega)];rfl
  have wP:((acc.length:Int)==64)=decide (acc.length=64):=by
   by_cases h:acc.length=64
   ·rw[h];rfl
   ·rw[decide_eq_false h,beq_eq_false_iff_ne];omega
  rw[F.ze.di];unfold F.ze.di.step;dsimp only;rw[zd (by omega),zp,g1,za,zee n hn p (by omega),za,zsk,hw,sY,zi (by omega),hg,ahf,cond_true,cond_true,wP,gF];by_cases h0:(ag p).2.1.1=0
  ·rw[decide_eq_true h0,ag5,cond_false];by_cases h6:acc.length=64
   ·rw[decide_eq_true h6,cond_true,if_neg (by simp[h6])];exact mB _ _ _
   ·rw[decide_eq_false h6,cond_false,if_pos ⟨h0,h6⟩];exact yV
  ·rw[decide_eq_false h0,ahc,cond_true,if_neg (by simp[h0])];exact mB _ _ _
theorem zgs(n:Nat)(c x:UInt8)(s:List UInt8):F.lx n (x::s) [c]=some (if x=c then(s,true,())else(x::s,false,())):=by
 unfold F.lx F.rQ F.mT;have h1:sub (x::s) 0 (([c]:List UInt8).length:Int)=some [x]:=by rw[show(0:Int)=((0:Nat):Int)from rfl,show(([c]:List UInt8).length:Int)=((1:Nat):Int)from rfl,zv (x::s) 0 1 (by omega) (by simp)];rfl
 have h2:sub (x::s) (([c]:List UInt8).length:Int) ((x::s).length:Int)=some s:=by rw[show(([c]:List UInt8).length:Int)=((1:Nat):Int)from rfl,zv (x::s) 1 _ (by simp) (by omega),ahT];rfl
 rw[zd (by simp;omega),h1,h2];by_cases h:x=c
 ·subst h;simp
 ·rw[if_neg h];have:([x]==[c])=false:=by simpa using h
  simp[this]
theorem zfe(n:Nat)(c:UInt8):F.lx n [] [c]=some ([],false,()):=rfl
theorem zzf(s:List UInt8):((du s).2.1.1==0&&(du s).2.1.2.1==0)=decide ((du s).2.1.1=0):=by
 by_cases h:(du s).2.1.1=0
 ·rw[decide_eq_true h,h,(zkd h).1];rfl
 ·rw[decide_eq_false h,beq_eq_false_iff_ne.2 h];rfl
theorem zzg(s:List UInt8):((parseNum s 1 1099511627776).2.1.1==0&&(parseNum s 1 1099511627776).2.1.2.1==0)=decide ((parseNum s 1 1099511627776).2.1.1=0):=by
 by_cases h:(parseNum s 1 1099511627776).2.1.1=0
 ·rw[decide_eq_true h,h,(zfc h).1];rfl
 ·rw[decide_eq_false h,beq_eq_false_iff_ne.2 h];rfl
theorem zln:∀(r:List (List UInt8))(acc:List ah)(a:Int)(l:List ah),kQ r acc a = .ok l→l.length=acc.length+r.length
 |[],acc,a,l,h=>by cases h;simp
 |p :: r,acc,a,l,h=>by
  rw[kQ]at h;split at h
  ·have:=zln r _ _ _ h;simp at this ⊢;omega
  ·cases h
theorem z23(n:Nat)(hn:200000≤n)(k0 kr:KR)(p:List UInt8)(hs:p.length≤9000)
 (c0:List UInt8) (c1:Int) (c2:List az) (c3:Int) (c4:List ah) (c5 d0 d1:Int) (e0:List UInt8) (e1:Int) (e2:List az) (e3:Int) (e4:List ah) (e5 a last f0 f1:Int) (q0 q1 q2:Nat) (ha:0≤a∧a≤100000)
 (qG:k0 c0 c1 c2 c3 c4 c5 d0 d1 e0 e1 e2 e3 e4 e5 a last f0 f1 0 0 q0 q1 q2=some (ux 11 a))
 (mB:∀l e,e≠0→kr c0 c1 c2 c3 c4 c5 d0 d1 e0 e1 e2 e3 e4 e5 a l f0 f1 e a q0 q1 q2=some (ux e a)) (m:Nat) (hm:5≤m) :
 F.ze.ay n k0 kr m p ([64],(),[35],(),[84],(),()) (0:Int) c0 c1 c2 c3 c4 c5 d0 d1 e0 e1 e2 e3 e4 e5 a last f0 f1 0 0 q0 q1 q2=match jr (e0,e1,e2,e3,e4,e5,()) last p with
  |.error e=>some (ux e a)
  |.ok (w,l)=>kr c0 c1 c2 c3 c4 c5 d0 d1 w.1 w.2.1 w.2.2.1 w.2.2.2.1 w.2.2.2.2.1 w.2.2.2.2.2.1 a l f0 f1 0 0 q0 q1 q2:=by
 obtain⟨m,rfl⟩:∃q,m=q+4:=⟨m - 4,by omega⟩;have sY:ag4 .i64 (a+0)=a:=by rw[Int.add_zero,zh (by omega)]
 have w1:ag4 .i64 ((0:Int)+1)=1:=rfl;have w2:ag4 .i64 ((1:Int)+1)=2:=rfl;have w3:ag4 .i64 ((2:Int)+1)=3:=rfl;have b1:((1:Int)==0)=false:=rfl;have b2:((2:Int)==0)=false:=rfl;have b3:((2:Int)==1)=false:=rfl;cases p with
 |nil =>rw[jr];rw[F.ze.ay];unfold F.ze.ay.step;dsimp only;rw[zd (by omega),beq_self_eq_true,cond_true,zfe,za,ahc,cond_true,w1,F.ze.ay];unfold F.ze.ay.step;dsimp only;rw[zd (by omega),b1,beq_self_eq_true,cond_true,cond_false,zfe,za,ahc,cond_true,w2,F.ze.ay];unfold F.ze.ay.step;dsimp only;rw[zd (by omega),b2,b3,beq_self_eq_true,cond_true,cond_false,cond_false,zfe,za,ahc,cond_true,w3,F.ze.ay];unfold F.ze.ay.step;dsimp only;rw[ze (by omega)];exact qG
 | cons x s =>
  simp only[ag0]at hs;rw[jr];rw[F.ze.ay];unfold F.ze.ay.step;dsimp only;rw[zd (by omega),beq_self_eq_true,cond_true,zgs,za,w1,sY];by_cases wP:x=64
  ·rw [if_pos wP,if_pos wP];dsimp only;rw[ag5,cond_false,vU];by_cases hl:0<last
   ·rw[if_pos hl,if_pos hl];exact qG
   ·rw[if_neg hl,if_neg hl,zn8 n (by omega) s (by omega) (by omega),za,zzf];by_cases h0:(du s).2.1.1=0
    ·rw[decide_eq_true h0,ag5,cond_false];by_cases h2:e1=2
     ·rw[h2,beq_self_eq_true,cond_true];by_cases h1:(du s).1=1000000
      ·rw[h1,beq_self_eq_true,ag5,cond_false,if_neg (by simp[h0])]
      ·rw[beq_eq_false_iff_ne.2 h1,ahc,cond_true,if_pos (by simp[h1])];rw[h2]at mB;exact mB _ _ (by decide)
     ·rw[beq_eq_false_iff_ne.2 h2,cond_false,if_neg (by simp[h0,h2])]
    ·rw[decide_eq_false h0,ahc,cond_true,if_pos (by simp[h0])];exact mB _ _ (by decide)
  rw[if_neg wP,if_neg wP];dsimp only;rw[ahc,cond_true];rw[F.ze.ay];unfold F.ze.ay.step;dsimp only;rw[zd (by omega),b1,beq_self_eq_true,cond_false,cond_true,zgs,za,w2,sY];by_cases KW:x=35
  ·rw[if_pos KW,if_pos KW];dsimp only;rw[ag5,cond_false,vU];by_cases hl:1<last
   ·rw[if_pos hl,if_pos hl];exact qG
   ·have lN:=wL 44 s;have hsn:=vf (bj 44 s);rw[if_neg hl,if_neg hl,zpv n hn s (by omega),za];cases hT:kQ (bj 44 s) [] 0 with
    |error e =>dsimp only;rw[show((19:Int)==0)=false from rfl,ah0,ahc,cond_true];exact mB _ _ (by decide)
    |ok l =>
     have Cz:=zln _ _ _ _ hT;simp only[ag9,Nat.zero_add]at Cz;dsimp only;rw[beq_self_eq_true,ait,ag5,cond_false,vU];by_cases h32:32<l.length
     ·rw[if_pos (by omega),if_pos h32];exact mB _ _ (by decide)
     ·rw[if_neg (by omega),if_neg h32,zgp n hn l (by omega),za]
  rw[if_neg KW,if_neg KW];dsimp only;rw[ahc,cond_true];rw[F.ze.ay];unfold F.ze.ay.step;dsimp only;rw[zd (by omega),b2,b3,beq_self_eq_true,cond_false,cond_false,cond_true,zgs,za,w3,sY];by_cases M8:x=84
  ·rw[if_pos M8,if_pos M8];dsimp only;rw[ag5,cond_false,vU];by_cases hl:2<last
   ·rw[if_pos hl,if_pos hl];exact qG
   ·rw[if_neg hl,if_neg hl,zq4 n s (by omega) (by omega),za,zzg];by_cases h0:(parseNum s 1 1099511627776).2.1.1=0
    ·rw[decide_eq_true h0,ag5,cond_false,if_neg (by simp[h0])]
    ·rw[decide_eq_false h0,ahc,cond_true,if_pos h0];exact mB _ _ (by decide)
  rw[if_neg M8,if_neg M8];dsimp only;rw[ahc,cond_true];rw[F.ze.ay];unfold F.ze.ay.step;dsimp only;rw[ze (by omega)];exact qG
structure UF (s:List UInt8) (ps:List (List UInt8)) (k0:K8):Prop where
 bad:∀c0 c1 c2 c3 c4 c5 d0 d1 e0 e1 e2 e3 e4 e5 e6 e7 e a q0 q1 q2,e≠0→k0 s ps c0 c1 c2 c3 c4 c5 d0 d1 e0 e1 e2 e3 e4 e5 e6 e7 e a q0 q1 q2=some (ux e a)
 ok:2≤ps.length→∀c0 c1 c2 c3 c4 c5 d0 d1 e0 e1 e2 e3 e4 e5 e6 e7 q0 q1 q2,k0 s ps c0 c1 c2 c3 c4 c5 d0 d1 e0 e1 e2 e3 e4 e5 e6 e7 0 0 q0 q1 q2=some ((e0,e1,e2,e3,e4,e5,()),(0,0,()),())
 one:ps.length<2→∀c0 c1 c2 c3 c4 c5 d0 d1 e0 e1 e2 e3 e4 e5 e6 e7 q0 q1 q2,k0 s ps c0 c1 c2 c3 c4 c5 d0 d1 e0 e1 e2 e3 e4 e5 e6 e7 0 0 q0 q1 q2=some (ux 11 (s.length:Int))
theorem zq6{a:Int}(p:List UInt8)(h:0≤a∧a+p.length+1≤100000):ag4 .i64 (a+ag4 .i64 ((p.length:Int)+1))=a+p.length+1:=by rw[zi (by omega),zh (by omega)];omega
theorem zsn(n:Nat)(hn:200000≤n)(k0:K8)(s:List UInt8)(ps:List (List UInt8))(hs:gb ps≤9000)(hk:UF s ps k0)(h2:2≤ps.length)
 (c0:List UInt8) (c1:Int) (c2:List az) (c3:Int) (c4:List ah) (c5 d0 d1:Int) (q0 q1 q2:Nat) :
 ∀(r:List (List UInt8))(a:Int)(w:bh)(last:Int)(i m:Nat),ps.drop i=r→2≤i→i≤ps.length→r.length<m→0≤a→a+gb r≤10000 →
 F.ze.L8 n k0 m s ps ps (ps.length:Int) (i:Int) c0 c1 c2 c3 c4 c5 d0 d1 w.1 w.2.1 w.2.2.1 w.2.2.2.1 w.2.2.2.2.1 w.2.2.2.2.2.1 a last 0 0 q0 q1 q2=some (Cn (kR r a w last)):=by
 intro r;have uU:=vf ps;induction r with
 |nil =>intro a w last i m h1 qB hi hm ha has;obtain⟨m,rfl⟩:∃q,m=q+1:=⟨m - 1,by omega⟩;rw[F.ze.L8];unfold F.ze.L8.step;dsimp only;rw[ze (by have:=zm h1;omega),kR];exact hk.ok h2 _ _ _ _ _ _ _ _ _ _ _ _ _ _ _ _ _ _ _
 | cons p r ih =>
  intro a w last i m h1 qB hi hm ha has;obtain⟨m,rfl⟩:∃q,m=q+1:=⟨m - 1,by simp at hm;omega⟩;obtain⟨l1,g1,t1⟩:=zl h1;simp only[ag0]at hm;simp only[gb,ahy,ahI]at has;have hp:=KV (ahx g1);have sY:ag4 .i64 (a+0)=a:=by rw[Int.add_zero,zh (by omega)]
  rw[F.ze.L8];unfold F.ze.L8.step;dsimp only;rw[zd (by omega),zp,g1,za,ze (by omega:¬(i:Int)<2)];refine(z23 n hn _ _ p (by omega) c0 c1 c2 c3 c4 c5 d0 d1 w.1 w.2.1 w.2.2.1 w.2.2.2.1 w.2.2.2.2.1 w.2.2.2.2.2.1 a last 0 0 q0 q1 q2 (by omega) ?_ ?_ n (by omega)).trans ?_
  ·rw[sY,ah0,ahc,cond_true];exact hk.bad _ _ _ _ _ _ _ _ _ _ _ _ _ _ _ _ _ _ _ _ _ (by decide)
  ·intro l e he;rw[beq_eq_false_iff_ne.2 he,ah0,ahc,cond_true];exact hk.bad _ _ _ _ _ _ _ _ _ _ _ _ _ _ _ _ _ _ _ _ _ he
  ·have hww:(w.1,w.2.1,w.2.2.1,w.2.2.2.1,w.2.2.2.2.1,w.2.2.2.2.2.1,())=w:=rfl;rw[hww,kR];cases jr w last p with
   |error e=>rfl
   |ok x =>obtain⟨w',l'⟩:=x;dsimp only;rw[zq6 p (by omega),zi (by omega)];exact ih (a+p.length+1) w' l' (i+1) m t1 (by omega) (by omega) (by omega) (by omega) (by simp only[gb];omega)
theorem aa4(s:List UInt8):(((eS 1 s 1 200).1==0)&&((eS 1 s 1 200).2.1==0))=cX s:=MU 1 s 1 200
theorem zzh(n:Nat)(hn:200000≤n)(k0:K8)(s:List UInt8)(ps:List (List UInt8))(c_:ps≠[])(hs:gb ps≤9000)(lN:s.length≤9000)(hk:UF s ps k0)(c0:List UInt8)(c1:Int)(c2:List az)(c3:Int)(c4:List ah)(c5 d0 d1:Int)(q0 q1:Nat) :
 F.ze.L8 n k0 n s ps ps (ps.length:Int) (0:Int) c0 c1 c2 c3 c4 c5 d0 d1 [] 0 [] 1000000 [] 0 0 0 0 0 q0 q1 0=some (Cn (nQ s ps)):=by
 have uU:=vf ps;cases ps with
 |nil=>exact absurd rfl c_
 | cons p r =>
  obtain⟨m,hm⟩:∃q,n=q+2:=⟨n - 2,by omega⟩;have hp:=KV (show p∈p::r by simp);have UG:=k9 58 p;have hrn:=zob 58 p;have ua:F.kh n p [58]=some (aX 58 p,dw 58 p,decide (58∈p),()):=rO n 58 (by omega);have sY:∀x:Int,0≤x∧x≤100000→ag4 .i64 (0+x)=x:=fun x hx=>by rw[Int.zero_add,zh (by omega)]
  have key:∀m,20001≤m+1→F.ze.L8 n k0 (m+1) s (p::r) (p::r) ((p::r).length:Int) (0:Int) c0 c1 c2 c3 c4 c5 d0 d1 [] 0 [] 1000000 [] 0 0 0 0 0 q0 q1 0=match jQ p with
   |.error e=>some (ux e.1 e.2)
   |.ok x=>F.ze.L8 n k0 m s (p::r) (p::r) ((p::r).length:Int) ((1:Nat):Int) c0 c1 c2 c3 c4 c5 d0 d1 x.1 0 x.2 1000000 [] 0 ((p.length:Int)+1) 0 0 0 q0 q1 x.2.length:=by
   intro m hm;rw[F.ze.L8];unfold F.ze.L8.step;dsimp only;rw[zd (by simp only[ag0];omega),show idx (p::r) 0=some p from rfl,za,zd (by omega:(0:Int)<2),beq_self_eq_true,cond_true,ua,za];dsimp only;rw[qo n 1 _ 1 200 (by omega) (by omega),za,aa4];unfold jQ;cases ma:cX (aX 58 p)
   ·rw[ahc,cond_true,if_pos rfl,sY 0 (by omega),ah0,ahc,cond_true];exact hk.bad _ _ _ _ _ _ _ _ _ _ _ _ _ _ _ _ _ _ _ _ _ (by decide)
   ·rw[ag5,cond_false,if_neg (by simp)];by_cases jL:(58:UInt8)∈p
    ·rw[decide_eq_true jL,ag5,cond_false,if_neg (by simp[jL]),zih n 58 (by omega),za];have EA:=wL 58 (dw 58 p);have hsn:=vf (bj 58 (dw 58 p));have oI:(aX 58 p).length+1+(dw 58 p).length≤p.length:=by unfold dw;rw[if_pos jL,List.length_drop];have:=qp jL;omega
     have hA:ag4 .i64 (((aX 58 p).length:Int)+1)=((aX 58 p).length:Int)+1:=zh (by omega);have hP:ag4 .i64 ((p.length:Int)+1)=(p.length:Int)+1:=zh (by omega);rw[hA,hP];refine(zsm n hn _ _ (bj 58 (dw 58 p)) (by omega) c0 c1 c2 c3 c4 c5 d0 d1 (aX 58 p) 0 1000000 [] 0 0 0 0 q0 q1 ?_ (bj 58 (dw 58 p)) [] _ 0 n rfl (by simp) (by omega) (by omega) (by omega) (by omega)).trans ?_
     ·intro acc a l;rw[show((17:Int)==0)=false from rfl,ah0,ahc,cond_true];exact hk.bad _ _ _ _ _ _ _ _ _ _ _ _ _ _ _ _ _ _ _ _ _ (by decide)
     ·cases gF (bj 58 (dw 58 p)) [] (((aX 58 p).length:Int)+1)with
      |error b=>rfl
      |ok vs =>dsimp only;rw[ait,ag5,cond_false,sY ((p.length:Int)+1) (by omega)];rfl
    ·rw[decide_eq_false jL,ahc,cond_true,if_pos jL,sY _ (by omega),ah0,ahc,cond_true];exact hk.bad _ _ _ _ _ _ _ _ _ _ _ _ _ _ _ _ _ _ _ _ _ (by decide)
  have GJ:∀m,20001≤m+1→∀nm (vs:List az) (a:Int) (l:Nat),a=(p.length:Int)+1→F.ze.L8 n k0 (m+1) s (p::r) (p::r) ((p::r).length:Int) ((1:Nat):Int) c0 c1 c2 c3 c4 c5 d0 d1 nm 0 vs 1000000 [] 0 a 0 0 0 q0 q1 l=some (Cn (lV s p nm vs r)):=by
   intro m hm nm vs a l hA;rw[F.ze.L8];unfold F.ze.L8.step;dsimp only;cases r with
   |nil =>rw[ze (by simp),lV];exact hk.one (by simp) _ _ _ _ _ _ _ _ _ _ _ _ _ _ _ _ _ _ _
   |cons q r =>
    have hq:=KV (show q∈p::q::r by simp);rw[zd (by simp only[ag0];omega),show idx (p::q::r) ((1:Nat):Int)=some q from rfl,za,zd (by omega),show(((1:Nat):Int)==0)=false from rfl,cond_false,show(((1:Nat):Int)==1)=true from rfl,cond_true,z2z n (by omega),za];have hwa:ag4 .i64 (a+0)=a:=by rw[Int.add_zero,zh (by omega)]
    rw[lV];by_cases h0:lC q=0
    ·rw[if_pos h0,if_pos h0];dsimp only;rw[show((16:Int)==0)=false from rfl,ahc,cond_true,ah0,ahc,cond_true,hwa,hA];exact hk.bad _ _ _ _ _ _ _ _ _ _ _ _ _ _ _ _ _ _ _ _ _ (by decide)
    ·rw[if_neg h0,if_neg h0];dsimp only;rw[beq_self_eq_true,ag5,cond_false,ait,ag5,cond_false];simp only[gb,ahy,ahI,ag0]at hs uU;rw[zq6 q (by omega),show ag4 .i64 (((1:Nat):Int)+1)=((2:Nat):Int)from rfl,hA];have:=zsn n hn k0 s (p::q::r) (by simp only[gb,ahy,ahI];omega) hk (by simp) c0 c1 c2 c3 c4 c5 d0 d1 q0 q1 l r ((p.length:Int)+1+(q.length+1)) (nm,lC q,vs,1000000,[],0,()) 0 2 m rfl (by omega) (by simp) (by omega) (by omega) (by simp only[gb];omega);rw[show(p.length:Int)+1+(q.length+1)=(p.length:Int)+1+q.length+1 by omega]at this ⊢;exact this
  have k1:=key (m+1) (by omega);have k2:=GJ m (by omega);have yE:n=m+1+1:=hm;rw[nQ];have goal:∀j,j=m+1+1→F.ze.L8 n k0 j s (p::r) (p::r) ((p::r).length:Int) (0:Int) c0 c1 c2 c3 c4 c5 d0 d1 [] 0 [] 1000000 [] 0 0 0 0 0 q0 q1 0=some (Cn (match jQ p with
   |.error e => .error e
   |.ok x=>lV s p x.1 x.2 r)):=by
   intro j hj;rw[hj,k1];cases jQ p with
   |error e=>rfl
   |ok x=>exact k2 x.1 x.2 _ _ rfl
  exact goal n yE
theorem zzi(n:Nat)(hn:200000≤n)(s:List UInt8)(hs:s.length≤1000000):F.ze n s=some (mU s):=by
 unfold F.ze mU;rw[vU];by_cases h:8192<s.length
 ·rw[if_pos (by omega),if_pos h];rfl
 ·rw[if_neg (by omega),if_neg h,zih n 124 hs,za];have EA:=wL 124 s;refine zzh n hn _ s (bj 124 s) (xR 124 s) (by omega) (by omega) ⟨?_,?_,?_⟩ [] 0 [] 0 [] 0 0 0 0 0
  ·intro c0 c1 c2 c3 c4 c5 d0 d1 e0 e1 e2 e3 e4 e5 e6 e7 e a q0 q1 q2 he;rw[beq_eq_false_iff_ne.2 he,ah0,cond_false,ahc,cond_true];rfl
  ·intro h2 c0 c1 c2 c3 c4 c5 d0 d1 e0 e1 e2 e3 e4 e5 e6 e7 q0 q1 q2;rw[beq_self_eq_true,ait,cond_true,ze (by omega),ag5,cond_false]
  ·intro h2 c0 c1 c2 c3 c4 c5 d0 d1 e0 e1 e2 e3 e4 e5 e6 e7 q0 q1 q2;rw[beq_self_eq_true,ait,cond_true,zd (by omega),ah0,ahc,cond_true];rfl
end Go.AM
namespace Go.AM
theorem zoc{m:bh}(h:fT m)(hs:dt m.2.2.2.2.1):fW m=(m,0,()):=by
 have hv:=(M7 h).1;have e1:m.2.2.1.map iO=m.2.2.1:=by have:m.2.2.1.map iO=m.2.2.1.map id:=List.map_congr_left (fun d hd=>(zza (hv d hd).1 (hv d hd).2).2);rw[this,List.map_id]
 have e2:oh m=m:=by unfold oh;rw[e1]
 unfold fW;rw[e2,if_pos h.A8];unfold jo;rw[e1,zn1 hs]
theorem zso(n:Nat)(hn:200000≤n){m:bh}(h:fT m)(hs:dt m.2.2.2.2.1):F.zk n m=some (pK m,0,()):=by rw[z2y n hn m h.ok];unfold Ds;rw[zoc h hs,if_pos rfl]
end Go.AM
namespace Go.AM
end Go.AM
namespace Go.AM
theorem zzj{c:UInt8}{s:List UInt8}(h:c∉s):aX c s=s∧dw c s=[]:=⟨qP h,by unfold dw;rw[if_neg h]⟩
end Go.AM
namespace Go.AM
theorem zjh:∀(r:List (List UInt8))(acc:List ah)(a:Int)(l:List ah),kQ r acc a = .ok l→(∀t∈acc,dm t=true)→∀t∈l,dm t=true
 |[],acc,a,l,h,hg=>by cases h;exact hg
 | p :: r,acc,a,l,h,hg=>by
  rw[kQ]at h;split at h
  ·rename_i hc;refine zjh r _ _ _ h (fun t ht => ?_);rcases ahL.1 ht with ht|ht
   ·exact hg t ht
   ·rw[ahU.1 ht];exact hc.1
  ·cases h
theorem z24{t:ah}(h:uv t):uu t:=⟨by have:=h.1;omega,by have:=h.2;omega⟩
end Go.AM
namespace Go.AM
end Go.AM
namespace Go.AM
structure iv (m:bh):Prop where
 nm:cX m.1=true
 kd:iD m.2.1=true
 vs:(∀d∈m.2.2.1,de d∧fy d=0)∧1≤m.2.2.1.length∧m.2.2.1.length≤64
 rt:ic m.2.1 m.2.2.2.1=true
 tg:(∀t∈m.2.2.2.2.1,dm t=true)∧m.2.2.2.2.1.length≤32∧dt m.2.2.2.2.1
 tm:iE m.2.2.2.2.2.1=true
theorem iv.right{m:bh}(h:iv m):fT m:=by
 have hn:=uf h.nm;refine⟨⟨by omega,⟨by have:=h.vs.2.2;omega,fun d hd=>(h.vs.1 d hd).1⟩,by have:=h.tg.2.1;omega,fun t ht=>z24 (zjc (h.tg.1 t ht))⟩,?_⟩;have hv:mh m.2.2.1=true:=by unfold mh;simp only[ahd,decide_eq_true_eq];exact⟨h.vs.2.1,h.vs.2.2,ahr.2 (fun d hd=>by simp[(h.vs.1 d hd).2])⟩
 have ht:ns m.2.2.2.2.1=true:=by unfold ns;simp only[ahd,decide_eq_true_eq];exact⟨h.tg.2.1,ahr.2 h.tg.1⟩
 unfold jm;rw[h.nm,h.kd,hv,h.rt,ht,h.tm];rfl
theorem fT.inv{m:bh}(h:fT m)(hs:dt m.2.2.2.2.1):iv m:=by obtain⟨c1,c2,c3,c4,c5,c6⟩:=vd h.A8;have ht:=zjf h;exact⟨c1,c2,M7 h,c4,⟨fun t Ak=>(ht.1 t Ak).2,ht.2,hs⟩,c6⟩
theorem zsp{p:List UInt8}(h:(ag p).2.1.1=0):de ((ag p).1.1,(ag p).1.2.1,(ag p).1.2.2.1)∧fy ((ag p).1.1,(ag p).1.2.1,(ag p).1.2.2.1)=0:=by obtain⟨neg,c,e,h1,h2,h3,h4⟩:=zy9 h;rw[h1];refine⟨⟨trivial,⟨by simp,?_⟩,h3⟩,h4⟩;have:=mT;simp only;omega
theorem zhr:∀(r:List (List UInt8))(acc:List az)(a:Int)(vs:List az),gF r acc a = .ok vs→(∀d∈acc,de d∧fy d=0)→acc.length≤64→(∀d∈vs,de d∧fy d=0)∧vs.length≤64∧vs.length=acc.length+r.length
 |[],acc,a,vs,h,hd,hl=>by cases h;exact⟨hd,hl,by simp⟩
 | p :: r,acc,a,vs,h,hd,hl=>by
  rw[gF]at h;split at h
  ·rename_i hc
   have hr:=zhr r _ _ _ h (fun d jK=>by
    rcases ahL.1 jK with jK |jK
    ·exact hd d jK
    ·rw[ahU.1 jK];exact zsp hc.1) (by simp;omega)
   refine⟨hr.1,hr.2.1,?_⟩;have:=hr.2.2;simp at this ⊢;omega
  ·cases h
theorem zgt:∀(r:List (List UInt8))(acc:List az)(a b:Int),gF r acc a = .error b→a≤b∧b<a+gb r
 |[],acc,a,b,h=>by cases h
 |p :: r,acc,a,b,h=>by
  rw[gF]at h;simp only[gb,ahy,ahI];split at h
  ·have:=zgt r _ _ _ h;simp only[gb]at this;omega
  ·cases h;omega
theorem zzk{s:List UInt8}(h:lC s≠0):iD (lC s)=true:=by
 revert h;unfold lC
 repeat' split
 all_goals first|(intro _;rfl) |(intro h;exact absurd rfl h)
theorem zzl{m:bh}(h:iv m){last:Int}{p:List UInt8}{m':bh}{l:Int}(hr:jr m last p = .ok (m',l)):iv m':=by
 cases p with
 |nil=>cases hr
 | cons x s =>
  rw[jr]at hr;split at hr
  ·split at hr
   ·cases hr
   ·split at hr
    ·cases hr
    ·rename_i hc;cases hr;have h0:(du s).2.1.1=0:=ahE fun hh=>hc (ahJ hh);obtain⟨_,r1,r2,_⟩:=zkd h0;refine⟨h.nm,h.kd,h.vs,?_,h.tg,h.tm⟩;unfold ic;simp only[ahd,decide_eq_true_eq];refine⟨r1,r2,?_⟩;by_cases h2:m.2.1=2
     ·have:(du s).1=1000000:=ahE fun hh=>hc (ahD ⟨h2,hh⟩);simp[this]
     ·simp[h2]
  ·split at hr
   ·split at hr
    ·cases hr
    ·split at hr
     ·cases hr
     ·rename_i l' hT;split at hr
      ·cases hr
      ·rename_i h32;cases hr;have hg:=zjh _ _ _ _ hT (fun t ht=>by cases ht);refine⟨h.nm,h.kd,h.vs,h.rt,⟨fun t ht=>hg t ((KS _ _).1 ht),?_,xU _⟩,h.tm⟩;have:=MW l';show(jT l').length≤32;omega
   ·split at hr
    ·split at hr
     ·cases hr
     ·split at hr
      ·cases hr
      ·rename_i hc;cases hr;have h0:(parseNum s 1 1099511627776).2.1.1=0:=ahE hc;obtain⟨_,r1,r2,r3,r4,_⟩:=zfc h0;refine⟨h.nm,h.kd,h.vs,h.rt,h.tg,?_⟩;unfold iE;simp only[ahd,decide_eq_true_eq];rw[r1];omega
    ·cases hr
theorem zvf{m:bh}{last:Int}{p:List UInt8}{e:Int}(hr:jr m last p = .error e):e≠0:=by
 cases p with
 |nil=>cases hr;decide
 | cons x s =>
  rw[jr]at hr;split at hr
  ·split at hr
   ·cases hr;decide
   ·split at hr<;>cases hr;decide
  ·split at hr
   ·split at hr
    ·cases hr;decide
    ·split at hr
     ·cases hr;decide
     ·split at hr<;>cases hr;decide
   ·split at hr
    ·split at hr
     ·cases hr;decide
     ·split at hr<;>cases hr;decide
    ·cases hr;decide
theorem zod:∀(r:List (List UInt8))(a:Int)(m:bh)(last:Int),iv m→(∀m',kR r a m last = .ok m'→iv m')∧(∀e b,kR r a m last = .error (e,b)→e≠0∧a≤b∧b<a+gb r)
 |[],a,m,last,h=>⟨fun m' hr=>by cases hr;exact h,fun e b hr=>by cases hr⟩
 |p :: r,a,m,last,h=>by
  rw[kR];simp only[gb,ahy,ahI];cases hm:jr m last p with
  |error e=>exact⟨fun m' hr=>(by cases hr),fun e b hr=>by cases hr;exact⟨zvf hm,by omega,by omega⟩⟩
  |ok x =>obtain⟨m1,l1⟩:=x;obtain⟨h1,h2⟩:=zod r (a+p.length+1) m1 l1 (zzl h hm);refine⟨h1,fun e b hr => ?_⟩;have:=h2 e b hr;simp only[gb]at this;omega
theorem zvg{s:List UInt8}{nm:List UInt8}{vs:List az}(h:jQ s = .ok (nm,vs)):cX nm=true∧(∀d∈vs,de d∧fy d=0)∧1≤vs.length∧vs.length≤64:=by
 unfold jQ at h;split at h
 ·cases h
 ·rename_i ma;split at h
  ·cases h
  ·split at h
   ·rename_i l_ hv;cases h;obtain⟨h1,h2,h3⟩:=zhr _ _ _ _ hv (fun d hd=>by cases hd) (by simp);have:=ahS.2 (xR 58 (dw 58 s));simp only[ag9,Nat.zero_add]at h3;exact⟨by simpa using ma,h1,by omega,h2⟩
   ·cases h
theorem zsq{s:List UInt8}{e a:Int}(h:jQ s = .error (e,a)):e≠0∧0≤a∧a≤s.length:=by
 unfold jQ at h;split at h
 ·cases h;exact⟨by decide,by omega,by omega⟩
 ·split at h
  ·cases h;exact⟨by decide,by omega,by omega⟩
  ·rename_i jL;split at h
   ·cases h
   ·rename_i b hv;cases h;have h1:=zgt _ _ _ _ hv;have h2:=wL 58 (dw 58 s);have UH:(58:UInt8)∈s:=ahE jL;have h3:(dw 58 s).length=s.length - ((aX 58 s).length+1):=by unfold dw;rw[if_pos UH,List.length_drop]
    have h4:=qp UH;exact⟨by decide,by omega,by omega⟩
theorem zvh(s:List UInt8)(ps:List (List UInt8))(EA:gb ps=s.length+1):(∀m,nQ s ps = .ok m→iv m)∧(∀e a,nQ s ps = .error (e,a)→e≠0∧0≤a∧a≤s.length):=by
 cases ps with
 |nil=>exact⟨fun m h=>(by cases h),fun e a h=>by cases h;exact⟨by decide,by omega,by omega⟩⟩
 | cons p r =>
  simp only[gb,ahy,ahI]at EA;rw[nQ];cases hf:jQ p with
  |error x =>obtain⟨e,a⟩:=x;refine⟨fun m h=>(by cases h),fun e a h => ?_⟩;cases h;have:=zsq hf;exact⟨this.1,this.2.1,by omega⟩
  | ok x =>
   obtain⟨nm,vs⟩:=x;obtain⟨h1,h2,h3,h4⟩:=zvg hf;dsimp only;cases r with
   |nil =>rw[lV];exact⟨fun m h=>(by cases h),fun e a h=>by cases h;exact⟨by decide,by omega,by omega⟩⟩
   |cons q r =>
    simp only[ahy,ahI]at EA;rw[lV];by_cases h0:lC q=0
    ·rw[if_pos h0];exact⟨fun m h=>(by cases h),fun e a h=>by cases h;exact⟨by decide,by omega,by omega⟩⟩
    ·rw[if_neg h0];have inv:iv (nm,lC q,vs,1000000,[],0,()):=⟨h1,zzk h0,⟨h2,h3,h4⟩,by unfold ic;simp,⟨fun t ht=>(by cases ht),by simp,aio⟩,(show iE 0=true by decide)⟩;obtain⟨g1,g2⟩:=zod r ((p.length:Int)+1+(q.length+1)) _ 0 inv;refine⟨g1,fun e a h => ?_⟩;have:=g2 e a h;simp only[gb]at this;omega
theorem zoe(s:List UInt8):((mU s).2.1=(0,0,())∧iv (mU s).1)∨(∃e a,e≠0∧0≤a∧a≤(s.length:Int)∧mU s=ux e a):=by
 unfold mU;split
 ·exact ahD ⟨12,0,by decide,by omega,by omega,rfl⟩
 ·obtain⟨h1,h2⟩:=zvh s (bj 124 s) (wL 124 s);cases hl:nQ s (bj 124 s)with
  |ok m=>exact ahJ ⟨rfl,h1 m hl⟩
  |error x =>obtain⟨e,a⟩:=x;obtain⟨g1,g2,g3⟩:=h2 e a hl;exact ahD ⟨e,a,g1,g2,g3,rfl⟩
end Go.AM
namespace Go.AM
abbrev au:=List UInt8×Int×List az×Int×List ah×Int
def Dt(m:bh):au:=(m.1,m.2.1,m.2.2.1,m.2.2.2.1,m.2.2.2.2.1,m.2.2.2.2.2.1)
theorem KX{X:Type}{v:List au}(h:v.length≤100000)(y:Option X):(bif decide ((v.length+1)*88≤2 ^ 46)&&decide (0<88∧88≤2 ^ 20)then y else none)=y:=by rw[decide_eq_true (by omega)];rfl
def eK(m:au):bh:=(m.1,m.2.1,m.2.2.1,m.2.2.2.1,m.2.2.2.2.1,m.2.2.2.2.2,())
abbrev KY:=List au×Int×Int×Unit
def iG(l:List au):Prop:=∀m∈l,iF (eK m)
def wQ:List au→List au→KY
 |[],out=>(out,0,0,())
 |m::r,out=>if(fW (eK m)).2.1=0 then wQ r (out++[Dt (fW (eK m)).1])else([],out.length,(fW (eK m)).2.1,())
def cw(l:List au):KY:=if 1000<l.length then([],1000,12,())else wQ l []
theorem z27(n:Nat)(hn:200000≤n)(k0 kr k1:List au→Int→Int→List au→List au→Nat→Nat→Option KY)(h0:∀a b c out d e f,k0 a b c out d e f=some (out,0,0,()))(hr:∀a i e out d k f,kr a i e out d k f=some (a,i,e,()))(l:List au)(hl:l.length≤1000)(cb:iG l)(b4:List au) :
 ∀(r:List au)(i m:Nat)(out b0:List au)(b1 b2:Int)(k:Nat),l.drop i=r→out.length=i→r.length<m →
 F.zu.bu n k0 kr k1 m l (l.length:Int) (i:Int) b0 b1 b2 out b4 k out.length=some (wQ r out):=by
 intro r;induction r with
 |nil =>intro i m out b0 b1 b2 k hi ho hm;have:=zm hi;obtain⟨m,rfl⟩:∃q,m=q+1:=⟨m - 1,by omega⟩;rw[F.zu.bu];unfold F.zu.bu.step;dsimp only;rw[ze (by omega),h0];rfl
 |cons x r ih =>
  intro i m out b0 b1 b2 k hi ho hm;obtain⟨g1,g2,g3⟩:=zl hi;obtain⟨m,rfl⟩:∃q,m=q+1:=⟨m - 1,by omega⟩;have hN:F.zl n (x.1,x.2.1,x.2.2.1,x.2.2.2.1,x.2.2.2.2.1,x.2.2.2.2.2,())=some (fW (eK x)):=zdp n hn (eK x) (cb x (ahx g2));rw[F.zu.bu];unfold F.zu.bu.step;dsimp only;rw[zd (by omega),zp,g2,za,hN,za,wQ];by_cases h:(fW (eK x)).2.1=0
  ·rw[if_pos h,h,beq_self_eq_true,ag5,cond_false,KX (by omega),ahf,cond_true,cond_false,zi (by omega)];exact ih (i+1) m _ b0 b1 b2 k g3 (by simp[ho]) (by simp at hm;omega)
  ·rw[if_neg h,beq_eq_false_iff_ne.2 h,ahc,cond_true,hr]
theorem zdr(n:Nat)(hn:200000≤n)(l:List au)(cb:iG l):F.zu n l=some (cw l):=by
 unfold F.zu cw;by_cases h:1000<l.length
 ·rw[zd (by omega),if_pos h]
 ·rw[ze (by omega),if_neg h];exact z27 n hn _ _ _ (fun _ _ _ _ _ _ _=>rfl) (fun _ _ _ _ _ _ _=>rfl) l (by omega) cb l l 0 n [] [] 0 0 0 rfl rfl (by omega)
def lK(l:List au):Prop:=l.length≤1000∧∀m∈l,fT (eK m)∧dt m.2.2.2.2.1
theorem zlo:∀(l out:List au),iG l→(∀m∈out,fT (eK m)∧dt m.2.2.2.2.1) →
 ((wQ l out).2=(0,0,())∧(wQ l out).1.length=out.length+l.length∧(∀m∈(wQ l out).1,fT (eK m)∧dt m.2.2.2.2.1)∧(wQ l out).1=out++l.map fun m=>Dt (jo (eK m))) ∨
 (∃i e:Int,e≠0∧wQ l out=([],i,e,())∧0≤i∧i<out.length+l.length)
 |[],out,_,ho=>ahJ ⟨rfl,by simp[wQ],ho,by simp[wQ]⟩
 | x :: l,out,cb,ho=>by
  have hx:=cb x (by simp);rw[wQ];rcases zef hx with⟨h,hR⟩ |⟨e,he,h⟩
  ·rw[h,if_pos rfl]
   rcases zlo l (out++[Dt (jo (eK x))]) (fun m hm=>cb m (by simp[hm])) (fun m hm=>by
    rcases ahL.1 hm with hm|hm
    ·exact ho m hm
    ·rw[ahU.1 hm];exact⟨hR,xU _⟩)with⟨a,b,c,d⟩ |⟨i,e,a,b,c,d⟩
   ·exact ahJ ⟨a,by rw[b];simp;omega,c,by rw[d];simp⟩
   ·exact ahD ⟨i,e,a,b,c,by simp at d ⊢;omega⟩
  ·rw[h,if_neg (show ¬e=0 from he)];exact ahD ⟨out.length,e,he,rfl,by omega,by simp;omega⟩
theorem rM{l:List au}(h:iG l):((cw l).2=(0,0,())∧lK (cw l).1∧(cw l).1=(l.map fun m=>Dt (jo (eK m)))∧l.length≤1000)∨(∃i e:Int,e≠0∧cw l=([],i,e,())):=by
 unfold cw;split
 ·exact ahD ⟨1000,12,by decide,rfl⟩
 ·rcases zlo l [] h (fun m hm=>by cases hm)with⟨a,b,c,d⟩ |⟨i,e,a,b,_⟩
  ·exact ahJ ⟨a,⟨by rw[b];simp;omega,c⟩,by rw[d];rfl,by omega⟩
  ·exact ahD ⟨i,e,a,b⟩
theorem lK.ok{l:List au}(h:lK l):iG l:=fun m hm=>(h.2 m hm).1.ok
abbrev AtR:=Int×Int×Unit
def Fs:List au→Nat→AtR
 |[],_=>(0,0,())
 |m::r,i=>if jm (eK m)=0 then Fs r (i+1)else((i:Int),jm (eK m),())
def yg(f:Int):List au→Nat→AtR
 |[],_=>(0,0,())
 |m::r,i=>bif re (eK m) f then yg f r (i+1)else((i:Int),26,())
def mV(l:List au):AtR:=if 1000<l.length then(1000,12,())else Fs l 0
def sn(l:List au)(f:Int):AtR:=if f<1∨f>4 then(0,29,())else if(mV l).2.1=0 then yg f l 0 else mV l
theorem aa7{X:Type}{v:List Bool}(h:v.length≤100000)(y:Option X):(bif decide ((v.length+1)*1≤2 ^ 46)&&decide (0<1∧1≤2 ^ 20)then y else none)=y:=by rw[decide_eq_true (by omega)];rfl
theorem zzm(n:Nat)(hn:200000≤n)(k0 kr k1:List Bool→Int→Int→List Bool→List au→Nat→Nat→Option AtR)(h0:∀a b c out d e f,k0 a b c out d e f=some (0,0,()))(hr:∀a i e out d k f,kr a i e out d k f=some (i,e,()))(l:List au)(hl:l.length≤1000)(cb:iG l)(b4:List au) :
 ∀(r:List au)(i m:Nat)(out b0:List Bool)(b1 b2:Int)(k:Nat),l.drop i=r→out.length=i→r.length<m →
 F.zz.dh n k0 kr k1 m l (l.length:Int) (i:Int) b0 b1 b2 out b4 k out.length=some (Fs r i):=by
 intro r;induction r with
 |nil =>intro i m out b0 b1 b2 k hi ho hm;have:=zm hi;obtain⟨m,rfl⟩:∃q,m=q+1:=⟨m - 1,by omega⟩;rw[F.zz.dh];unfold F.zz.dh.step;dsimp only;rw[ze (by omega),h0];rfl
 |cons x r ih =>
  intro i m out b0 b1 b2 k hi ho hm;obtain⟨g1,g2,g3⟩:=zl hi;obtain⟨m,rfl⟩:∃q,m=q+1:=⟨m - 1,by omega⟩;have hN:F.xU n (x.1,x.2.1,x.2.2.1,x.2.2.2.1,x.2.2.2.2.1,x.2.2.2.2.2,())=some (true,jm (eK x),()):=by unfold F.xU;have:=wH n hn (eK x) (cb x (ahx g2));unfold eK at this;rw[this];rfl
  rw[F.zz.dh];unfold F.zz.dh.step;dsimp only;rw[zd (by omega),zp,g2,za,hN,za,Fs];by_cases h:jm (eK x)=0
  ·rw[if_pos h,h,beq_self_eq_true,ag5,cond_false,aa7 (by omega),ahf,cond_true,cond_false,zi (by omega)];exact ih (i+1) m _ b0 b1 b2 k g3 (by simp[ho]) (by simp at hm;omega)
  ·rw[if_neg h,beq_eq_false_iff_ne.2 h,ahc,cond_true,hr,ho]
theorem zpw(n:Nat)(hn:200000≤n)(l:List au)(cb:iG l):F.zz n l=some (mV l):=by
 unfold F.zz mV;by_cases h:1000<l.length
 ·rw[zd (by omega),if_pos h]
 ·rw[ze (by omega),if_neg h];exact zzm n hn _ _ _ (fun _ _ _ _ _ _ _=>rfl) (fun _ _ _ _ _ _ _=>rfl) l (by omega) cb l l 0 n [] [] 0 0 0 rfl rfl (by omega)
theorem M9(g:au→Option Bool)(f:Int)(hg:∀x,g x=some (re (eK x) f))(k0:Unit→Option AtR)(kr:Int→Int→Option AtR)(h0:k0 ()=some (0,0,()))(hr:∀a b,kr a b=some (a,b,()))(l:List au)(hl:l.length≤1000)(L:Nat→Int→Option AtR)
 (hL:∀m i,L (m+1) i=bif decide (i<(l.length:Int))then(idx l i).bind fun x=>(g x).bind fun y=>bif !y then kr i 26 else L m (ag4 .i64 (i+1))else k0 ()) :
 ∀(r:List au)(i m:Nat),l.drop i=r→r.length<m→L m (i:Int)=some (yg f r i):=by
 intro r;induction r with
 |nil =>intro i m hi hm;have:=zm hi;obtain⟨m,rfl⟩:∃q,m=q+1:=⟨m - 1,by omega⟩;rw[hL,ze (by omega),h0];rfl
 |cons x r ih =>
  intro i m hi hm;obtain⟨g1,g2,g3⟩:=zl hi;obtain⟨m,rfl⟩:∃q,m=q+1:=⟨m - 1,by omega⟩;rw[hL,zd (by omega),zp,g2,za,hg,za,yg];cases re (eK x) f
  ·rw[ahc,cond_true,cond_false,hr]
  ·rw[ag5,cond_false,cond_true,zi (by omega)];exact ih (i+1) m g3 (by simp at hm;omega)
theorem z28(n:Nat)(hn:200000≤n)(l:List au)(cb:iG l)(f:Int):F.zr n l f=some (sn l f):=by
 have hl:∀{p:AtR},mV l=p→p.2.1=0→l.length≤1000:=fun e h0=>by
  unfold mV at e;split at e
  ·rw[←e]at h0;cases h0
  ·omega
 unfold F.zr sn;rw[zpw n hn l cb];have hs:=fun x:au=>zu2 n (eK x);have hg:=fun x:au=>zu3 n (eK x);by_cases h:f<1∨f>4
 ·rw[if_pos h,beq_eq_false_iff_ne.2 (by omega:f≠1),beq_eq_false_iff_ne.2 (by omega:f≠2),beq_eq_false_iff_ne.2 (by omega:f≠3),beq_eq_false_iff_ne.2 (by omega:f≠4)];rfl
 rw[if_neg h];simp only[za];generalize hc:mV l=p;by_cases h0:p.2.1=0
 ·have hl:=hl hc h0;rw[if_pos h0,h0,beq_self_eq_true,ag5,cond_false,cond_false];rcases(by omega:f=1∨f=2∨f=3∨f=4)with rfl|rfl|rfl|rfl
  ·exact M9 (fun x=>F.rP n (x.1,x.2.1,x.2.2.1,x.2.2.2.1,x.2.2.2.2.1,x.2.2.2.2.2,())) 1 hs (fun _=>some (0,0,())) (fun a b=>some (a,b,())) rfl (fun _ _=>rfl) l hl (fun m i=>F.zr.L8 n _ _ m l (l.length:Int) i) (fun _ _=>rfl) l 0 n rfl (by omega)
  ·exact M9 (fun x=>F.qO n (x.1,x.2.1,x.2.2.1,x.2.2.2.1,x.2.2.2.2.1,x.2.2.2.2.2,())) 2 (fun _=>rfl) (fun _=>some (0,0,())) (fun a b=>some (a,b,())) rfl (fun _ _=>rfl) l hl (fun m i=>F.zr.vV n _ _ m l (l.length:Int) i) (fun _ _=>rfl) l 0 n rfl (by omega)
  ·exact M9 (fun x=>F.qg n (x.1,x.2.1,x.2.2.1,x.2.2.2.1,x.2.2.2.2.1,x.2.2.2.2.2,())) 3 hg (fun _=>some (0,0,())) (fun a b=>some (a,b,())) rfl (fun _ _=>rfl) l hl (fun m i=>F.zr.zF n _ _ m l (l.length:Int) i) (fun _ _=>rfl) l 0 n rfl (by omega)
  ·exact M9 (fun x=>F.qO n (x.1,x.2.1,x.2.2.1,x.2.2.2.1,x.2.2.2.2.1,x.2.2.2.2.2,())) 4 (fun _=>rfl) (fun _=>some (0,0,())) (fun a b=>some (a,b,())) rfl (fun _ _=>rfl) l hl (fun m i=>F.zr.vV n _ _ m l (l.length:Int) i) (fun _ _=>rfl) l 0 n rfl (by omega)
 ·obtain⟨a,b,_⟩:=p;rw[if_neg h0,beq_eq_false_iff_ne.2 h0];rcases(by omega:f=1∨f=2∨f=3∨f=4)with rfl|rfl|rfl|rfl<;>rfl
theorem zlp:∀(l:List au)(i:Nat),(∀m∈l,fT (eK m))→Fs l i=(0,0,())
 |[],_,_=>rfl
 |x::l,i,h=>by rw[Fs,if_pos (h x (by simp)).A8,zlp l _ fun m hm=>h m (by simp[hm])]
theorem zof{l:List au}(h:lK l):mV l=(0,0,()):=by unfold mV;rw[if_neg (by have:=h.1;omega),zlp l 0 fun m hm=>(h.2 m hm).1]
theorem zlq:∀(l:List au)(f:Int)(i:Nat),(yg f l i).2.1=0→yg f l i=(0,0,())∧∀m∈l,re (eK m) f=true
 |[],f,i,_=>⟨rfl,fun m hm=>by cases hm⟩
 | x :: l,f,i,h=>by
  rw[yg]at h ⊢;cases hx:re (eK x) f
  ·rw[hx]at h;cases h
  ·rw[hx]at h;obtain⟨a,b⟩:=zlq l f (i+1) h
   exact⟨a,fun m hm=>by
    rcases ahv.1 hm with rfl|hm
    ·exact hx
    ·exact b m hm⟩
theorem zlr{l:List au}{f:Int}(h:lK l)(h0:(sn l f).2.1=0):sn l f=(0,0,())∧∀m∈l,f_ (eK m) f=0:=by
 unfold sn at h0 ⊢;rw[zof h]at h0 ⊢;split at h0
 ·cases h0
 ·rename_i hf;rw[if_pos rfl]at h0;rw[if_neg hf,if_pos rfl];obtain⟨a,b⟩:=zlq l f 0 h0;refine⟨a,fun m hm => ?_⟩;unfold f_;rw[if_neg hf,if_pos (h.2 m hm).1.A8,b m hm];rfl
end Go.AM
namespace Go.AM
theorem zog{X:Type}(a:Option (List AV))(k:Option X):lZ a a k=k:=by unfold lZ;rw[if_pos rfl]
theorem M_(k:List UInt8)(v:Int)(l:List (List UInt8×Int))(s:List UInt8):jb ((k,v)::l) s=if k=s then some v else jb l s:=by
 show(bif k==s then some v else jb l s)=_;by_cases h:k=s
 ·rw[if_pos h,beq_iff_eq.2 h];rfl
 ·rw[if_neg h,beq_eq_false_iff_ne.2 h];rfl
theorem zsr(k:List UInt8)(v:Int)(l:List (List UInt8×Int))(s:List UInt8)(n:Int):gZ ((k,v)::l) s n=if k=s then(k,n)::l else(k,v)::gZ l s n:=by
 show(bif k==s then(k,n)::l else(k,v)::gZ l s n)=_;by_cases h:k=s
 ·rw[if_pos h,beq_iff_eq.2 h];rfl
 ·rw[if_neg h,beq_eq_false_iff_ne.2 h];rfl
theorem zls:∀(l:List (List UInt8×Int))(s:List UInt8)(v:Int)(t:List UInt8),jb (gZ l s v) t=if s=t then some v else jb l t
 |[],s,v,t=>by show jb ((s,v)::[]) t=_;rw[M_]
 | (k,w)::l,s,v,t=>by
  rw[zsr,M_];by_cases hk:k=s
  ·subst hk;rw[if_pos rfl,M_];by_cases h:k=t
   ·rw[if_pos h,if_pos h]
   ·rw[if_neg h,if_neg h,if_neg h]
  ·rw[if_neg hk,M_,zls l s v t];by_cases h:k=t
   ·subst h;rw[if_pos rfl,if_neg (fun e=>hk e.symm),if_pos rfl]
   ·rw[if_neg h,if_neg h]
def ck(s:List UInt8):List (List UInt8)→Nat→Nat
 |[],_=>0
 |w::r,i=>if w=s then i+1 else ck s r (i+1)
theorem zlt(s:List UInt8):∀(l r:List (List UInt8))(i:Nat),ck s (l++r) i=if ck s l i=0 then ck s r (i+l.length)else ck s l i
 |[],r,i=>by simp[ck]
 | w :: l,r,i=>by
  by_cases h:w=s
  ·have e1:∀q,ck s (w::q) i=i+1:=fun q=>by show(if w=s then i+1 else _)=_;rw[if_pos h]
   rw[ah1,e1,e1,if_neg (by omega)]
  ·have e1:∀q,ck s (w::q) i=ck s q (i+1):=fun q=>by show(if w=s then _ else ck s q (i+1))=_;rw[if_neg h]
   rw[ah1,e1,e1,zlt s l r (i+1),ag0,show i+1+l.length=i+(l.length+1)from by omega]
theorem M'(s:List UInt8):∀(l:List (List UInt8))(i:Nat),ck s l i≤i+l.length
 |[],i=>by simp[ck]
 |w::l,i=>by
  simp only[ck,ag0];split
  ·omega
  ·have:=M' s l (i+1);omega
def cl(ws:List (List UInt8))(s:List UInt8):List UInt8×List (List UInt8):=
 if ck s ws 0=0 then([ahs 0]++bz s.length++s,ws++[s])else(bz (ck s ws 0),ws)
def dmap(L:List (List UInt8×Int))(ws:List (List UInt8))(s:List UInt8):List (List UInt8×Int):=
 if ck s ws 0=0 then gZ L s (((ws++[s]).length:Nat):Int)else L
def ml(L:List (List UInt8×Int))(ws:List (List UInt8)):Prop:=∀s,jb L s=if ck s ws 0=0 then none else some ((ck s ws 0:Nat):Int)
theorem ml.put{L:List (List UInt8×Int)}{ws:List (List UInt8)}(h:ml L ws)(s:List UInt8):ml (dmap L ws s) (cl ws s).2:=by
 unfold dmap cl;by_cases hf:ck s ws 0=0
 ·rw[if_pos hf,if_pos hf];intro t;rw[zls,zlt];by_cases hs:s=t
  ·subst hs;rw[if_pos rfl,hf];simp[ck]
  ·rw[if_neg hs,h t];by_cases ht:ck t ws 0=0
   ·simp[ht,ck,hs]
   ·simp[ht]
 ·rw[if_neg hf,if_neg hf];exact h
theorem oM{ws:List (List UInt8)}{s:List UInt8}(hs:s.length≤200)(hw:ws.length<65536):(cl ws s).1.length≤220∧(cl ws s).2.length≤ws.length+1:=by
 unfold cl;have:=M' s ws 0;split
 ·have:=iI (n:=s.length) (by omega);simp;omega
 ·have:=iI (n:=ck s ws 0) (by omega);simp only;omega
theorem aa8{X:Type}{k:Nat}(h:k≤100000)(y:Option X):(bif decide ((k+1)*16≤2 ^ 46)&&decide (0<16∧16≤2 ^ 20)then y else none)=y:=by
 have:decide ((k+1)*16≤2 ^ 46)=true:=by simp only[decide_eq_true_eq];omega
 rw[this];rfl
theorem zgu {X:Type} (n:Nat) (hn:100≤n) {A:Option (List AV)} {L:List (List UInt8×Int)} {ws:List (List UInt8)} {s:List UInt8} (hm:ml L ws) (hs:s.length≤200) (hw:ws.length<65536) {P:List UInt8→Option X} {R:List UInt8→List UInt8→Option X} {Q1 Q2:Option X} :
 js L s (fun x => (F.zi n (ag4 .u64 (x))).bind fun y=>lZ A A (P y))
  (bif decide ((s.length:Int)>(200:Int))then Q1 else
   bif decide ((ws.length:Int)≥(65536:Int))then Q2 else
   bif decide ((ws.length+1)*16≤2 ^ 46)&&decide (0<16∧16≤2 ^ 20)then
    bif aij ws.length ws.length then
     (F.zi n (0:Int)).bind fun Du =>
      (F.zi n (ag4 .u64 ((s.length:Int)))).bind fun KZ =>
       bif decide ((Du.length+KZ.length)*1≤2 ^ 46)&&decide (0<1∧1≤2 ^ 20)then
        bif aij Du.length Du.length then
         bif decide ((((Du++KZ).length)+s.length)*1≤2 ^ 46)&&decide (0<1∧1≤2 ^ 20)then
          bif aij ((Du++KZ).length) ((Du++KZ).length)then
           lZ A A (R Du KZ)
          else none
         else none
        else none
       else none
    else none
   else none)=if ck s ws 0=0 then R [ahs 0] (bz s.length)else P (bz (ck s ws 0)):=by
 unfold js;rw[hm s];by_cases hf:ck s ws 0=0
 ·rw[if_pos hf,if_pos hf];have h0:F.zi n (0:Int)=some [ahs 0]:=by have:=jM n hn 0 (by omega);rw[lS (by omega)]at this;exact this
  simp only;rw[ze (by omega),ze (by omega),aa8 (by omega),ahf,cond_true,h0,za,zz (by omega),jM n hn s.length (by omega),za];have:=iI (n:=s.length) (by omega);rw[gD (by simp;omega),ahf,cond_true,gD (by simp;omega),ahf,cond_true,zog]
 ·rw[if_neg hf,if_neg hf];have:=M' s ws 0;simp only;rw[zz (by omega),jM n hn _ (by omega),za,zog]
def oU(d:az):List UInt8:=bz (if d.1 then 2*jC d.2.2+1 else 2*jC d.2.2)++bz d.2.1.toNat
theorem zij{d:az}(h:de d)(h0:fy d=0) : -1000≤d.2.2∧d.2.2≤1000:=by have:=(vh h0).2;omega
theorem zke{e:Int}(h : -1000≤e∧e≤1000):jC e≤2000:=by unfold jC;split<;>omega
theorem zoh{d:az}(h:de d)(h0:fy d=0):(oU d).length≤20:=by have he:=zij h h0;have:=zke he;have h1:=iI (n:=if d.1 then 2*jC d.2.2+1 else 2*jC d.2.2) (by split<;>omega);have h2:=iI (n:=d.2.1.toNat) (by have:=h.2.1;omega);unfold oU;simp only[ag1];omega
theorem zvi(n:Nat)(hn:200000≤n){d:az}(h:de d)(h0:fy d=0):F.vd n (d.1,d.2.1,d.2.2,())=some (oU d,0,()):=by
 have he:=zij h h0;have hz:=zke he;have hc:F.zi n d.2.1=some (bz d.2.1.toNat):=by have:=jM n (by omega) d.2.1.toNat (by have:=h.2.1;omega);rwa[show((d.2.1.toNat:Nat):Int)=d.2.1 from by have:=h.2.1;omega]at this
 have l2:=iI (n:=d.2.1.toNat) (by have:=h.2.1;omega);unfold F.vd oU;simp only;rw[zid n (by omega) h,za,h0,z4b n _ he];simp only[beq_self_eq_true,ag5,cond_false,za];have es:gk .u64 ((jC d.2.2:Nat):Int) (1:Int)=((2*jC d.2.2:Nat):Int):=by rw[Kt];omega
 cases d.1 with
 |true =>have l1:=iI (n:=2*jC d.2.2+1) (by omega);simp only[cond_true,if_true];rw[es,or1 (by omega),jM n (by omega) _ (by omega),za,hc,za,gD (by omega),ahf,cond_true,ahf,cond_true];rfl
 |false =>have l1:=iI (n:=2*jC d.2.2) (by omega);simp only[cond_false,Bool.false_eq_true,if_false];rw[es,jM n (by omega) _ (by omega),za,hc,za,gD (by omega),ahf,cond_true,ahf,cond_true];rfl
def gS(vs:List az):List UInt8:=(vs.map oU).flatten
def ey:List (List UInt8)→List ah→List UInt8×List (List UInt8)
 |ws,[]=>([],ws)
 |ws,t::r=>((cl ws t.1).1++(cl (cl ws t.1).2 t.2).1++(ey (cl (cl ws t.1).2 t.2).2 r).1,(ey (cl (cl ws t.1).2 t.2).2 r).2)
def iK(ws:List (List UInt8))(m:au):List UInt8×List (List UInt8):=
 ((cl ws m.1).1++[ahs (ag4 .u8 m.2.1).toNat]++bz m.2.2.1.length++gS m.2.2.1++bz m.2.2.2.1.toNat++bz m.2.2.2.2.1.length++(ey (cl ws m.1).2 m.2.2.2.2.1).1++bz m.2.2.2.2.2.toNat,(ey (cl ws m.1).2 m.2.2.2.2.1).2)
def kT:List (List UInt8)→List au→List UInt8
 |ws,[]=>[]
 |ws,m::r=>(iK ws m).1++kT (iK ws m).2 r
theorem zgv:∀(vs:List az),(∀d∈vs,de d∧fy d=0)→(gS vs).length≤20*vs.length
 |[],_=>by simp[gS]
 |d::r,h=>by have h1:=zoh (h d (by simp)).1 (h d (by simp)).2;have h2:=zgv r fun x hx=>h x (by simp[hx]);unfold gS at h2 ⊢;simp only[ahy,List.flatten_cons,ag1,ag0];omega
theorem Na:∀(ts:List ah)(ws:List (List UInt8)),(∀t∈ts,t.1.length≤200∧t.2.length≤200)→ws.length+2*ts.length<65536→(ey ws ts).1.length≤440*ts.length∧(ey ws ts).2.length≤ws.length+2*ts.length
 |[],ws,_,_=>by simp[ey]
 |t::r,ws,h,hw=>by simp only[ag0]at hw;have h0:=h t (by simp);have h1:=oM (ws:=ws) h0.1 (by omega);have h2:=oM (ws:=(cl ws t.1).2) h0.2 (by omega);have h3:=Na r (cl (cl ws t.1).2 t.2).2 (fun x hx=>h x (by simp[hx])) (by omega);simp only[ey,ag1,ag0];omega
end Go.AM
namespace Go.AM
theorem ot{X:Type}(a b:Option X):(bif (0:Int)==(0:Int)then a else b)=a:=rfl
theorem zzn{X:Type}(n:Nat)(hn:200000≤n)(k1:_)(L:_)(ws:_)(iL hZ uy uz uA uB sZ rS nG K0 ou:_)(vs:List az)(t0 t1:Nat)(hl:vs.length≤10000)(cb:∀d∈vs,de d∧fy d=0):∀(r:List az)(i m:Nat)(o:List UInt8),vs.drop i=r→r.length<m→o.length+20*r.length≤90000000→i≤vs.length →
 F.zb.fM (X:=X) n k1 m vs (vs.length:Int) (i:Int) L ws iL hZ uy uz uA uB sZ rS vs nG K0 ou o 0 t0 t1 o.length=k1 L ws iL hZ uy uz uA uB sZ rS vs nG K0 ou (o++gS r) 0 t0 t1 (o++gS r).length:=by
 intro r;induction r with
 |nil =>intro i m o h1 hm ho hi;obtain⟨m,rfl⟩:∃q,m=q+1:=⟨m - 1,by omega⟩;rw[F.zb.fM];unfold F.zb.fM.step;dsimp only;rw[ze (by have:=zm h1;omega)];simp[gS]
 |cons d r ih =>intro i m o h1 hm ho hi;obtain⟨m,rfl⟩:∃q,m=q+1:=⟨m - 1,by simp at hm;omega⟩;obtain⟨l1,g1,t1'⟩:=zl h1;simp only[ag0]at hm ho;obtain⟨hd,h0⟩:=cb d (ahx g1);have hb:=zoh hd h0;rw[F.zb.fM];unfold F.zb.fM.step;dsimp only;rw[zd (by omega),zp,g1,za,zvi n hn hd h0,za,ot,gD (by simp only;omega),ahf,cond_true,zi (by omega)];have:=ih (i+1) m (o++oU d) t1' (by omega) (by simp only[ag1];omega) (by omega);simp only;rw[this];simp[gS]
theorem zzo{X:Type}(n:Nat)(hn:200000≤n)(kn:_)(c76 c77 c78:_){L:List (List UInt8×Int)}{ws:List (List UInt8)}(iL hZ uy uz uA uB sZ rS yS nG K0 ou:_)(t0:Nat)(a b:List UInt8)(hM:ml L ws)(hb:b.length≤200)(hw:ws.length<65536)(o:List UInt8)(ho:o.length≤90000000) :
 F.zb.eZ (X:=X) n kn c76 c77 c78 L ws iL hZ uy uz uA uB sZ rS yS nG K0 ou o 0 a b t0 ws.length o.length=kn c76 c77 c78 (dmap L ws b) (cl ws b).2 iL hZ uy uz uA uB sZ rS yS nG K0 ou (o++(cl ws b).1) 0 t0 (cl ws b).2.length (o++(cl ws b).1).length:=by
 have hd:=oM (ws:=ws) hb hw;unfold F.zb.eZ;refine(zgu n (by omega) hM hb hw).trans ?_;unfold cl at hd ⊢;unfold dmap;by_cases hf:ck b ws 0=0
 ·rw[if_pos hf]at hd ⊢;simp only[if_pos hf];simp only at hd;rw[ot,gD (by omega),ahf,cond_true]
 ·rw[if_neg hf]at hd ⊢;simp only[if_neg hf];simp only at hd;rw[ot,gD (by omega),ahf,cond_true]
theorem zzp{X : Type}(n:Nat)(hn:200000≤n)(k3:_)(iL hZ uy uz uA uB sZ rS yS nG ou:_)(ts:List ah)(t0:Nat)(hl:ts.length≤10000)(cb:∀t∈ts,t.1.length≤200∧t.2.length≤200):∀(r:List ah)(i m:Nat)(L:List (List UInt8×Int))(ws:List (List UInt8))(o:List UInt8),ts.drop i=r→r.length<m→o.length+440*r.length≤80000000→i≤ts.length→ml L ws→ws.length+2*r.length<65536 →
 ∃L',ml L' (ey ws r).2∧F.zb.fx (X:=X) n k3 m ts (ts.length:Int) (i:Int) L ws iL hZ uy uz uA uB sZ rS yS nG ts ou o 0 t0 ws.length o.length=k3 L' (ey ws r).2 iL hZ uy uz uA uB sZ rS yS nG ts ou (o++(ey ws r).1) 0 t0 (ey ws r).2.length (o++(ey ws r).1).length:=by
 intro r;induction r with
 |nil =>intro i m L ws o h1 hm ho hi hM hw;obtain⟨m,rfl⟩:∃q,m=q+1:=⟨m - 1,by omega⟩;refine⟨L,hM,?_⟩;rw[F.zb.fx];unfold F.zb.fx.step;dsimp only;rw[ze (by have:=zm h1;omega)];simp[ey]
 | cons t r ih =>
  intro i m L ws o h1 hm ho hi hM hw;obtain⟨m,rfl⟩:∃q,m=q+1:=⟨m - 1,by simp at hm;omega⟩;obtain⟨l1,g1,t1'⟩:=zl h1;simp only[ag0]at hm ho hw;obtain⟨ha,hb⟩:=cb t (ahx g1);have d1:=oM (ws:=ws) ha (by omega);have d2:=oM (ws:=(cl ws t.1).2) hb (by omega);have hM1:=hM.put t.1;have hM2:=hM1.put t.2;obtain⟨L',K1,e⟩:=ih (i+1) m _ _ (o++(cl ws t.1).1++(cl (cl ws t.1).2 t.2).1) t1' (by omega) (by simp only[ag1];omega) (by omega) hM2 (by omega);refine⟨L',K1,?_⟩;rw[F.zb.fx];unfold F.zb.fx.step;dsimp only;rw[zd (by omega),zp,g1,za];refine(zgu n (by omega) hM ha (by omega)).trans ?_;have key:∀(o1:List UInt8)(w1:List (List UInt8))(M1:List (List UInt8×Int)),o1=o++(cl ws t.1).1→w1=(cl ws t.1).2→M1=dmap L ws t.1 →
   F.zb.eZ n (fun Nb Nc Nd Ft Fu Fv Fw Fy Fz FA FB FC FD FF FG FH FI FJ FK Nf Ng Nh =>F.zb.fx n k3 m Nb Nc (ag4 .i64 (Nd+(1:Int))) Ft Fu Fv Fw Fy Fz FA FB FC FD FF FG FH FI FJ FK Nf Ng Nh) ts (ts.length:Int) (i:Int) M1 w1 iL hZ uy uz uA uB sZ rS yS nG ts ou o1 0 t.1 t.2 t0 w1.length o1.length=k3 L' (ey ws (t::r)).2 iL hZ uy uz uA uB sZ rS yS nG ts ou (o++(ey ws (t::r)).1) 0 t0 (ey ws (t::r)).2.length (o++(ey ws (t::r)).1).length:=by
   intro o1 w1 M1 q1 q2 q3;subst q1 q2 q3;rw[zzo n hn _ _ _ _ _ _ _ _ _ _ _ _ _ _ _ _ _ _ _ hM1 hb (by omega) _ (by simp only[ag1];omega)];rw[zi (by omega),e];simp only[ey,ahP]
  unfold cl at d1 key;unfold dmap at key;by_cases hf:ck t.1 ws 0=0
  ·rw[if_pos hf]at d1;simp only[if_pos hf]at key ⊢;simp only at d1;rw[ot,gD (by omega),ahf,cond_true];exact key _ _ _ rfl rfl rfl
  ·rw[if_neg hf]at d1;simp only[if_neg hf]at key ⊢;simp only at d1;rw[ot,gD (by omega),ahf,cond_true];exact key _ _ _ rfl rfl rfl
def vr(ws:List (List UInt8))(m:au):List UInt8:=[ahs (ag4 .u8 m.2.1).toNat]++bz m.2.2.1.length++gS m.2.2.1++bz m.2.2.2.1.toNat++bz m.2.2.2.2.1.length++(ey ws m.2.2.2.2.1).1++bz m.2.2.2.2.2.toNat
theorem zzq{X:Type}(n:Nat)(hn:200000≤n)(kr:_)(iL hZ uy uz uA uB sZ:_)(rS:Int)(vs:List az)(nG:Int)(ts:List ah)(ou:Int)(t0:Nat)(hv:∀d∈vs,de d∧fy d=0)(CC:vs.length≤64)(h33:0≤nG∧nG≤1000000)(ht:∀t∈ts,t.1.length≤200∧t.2.length≤200)(yG:ts.length≤32)(KW:0≤ou∧ou≤1099511627776)(L:List (List UInt8×Int))(ws:List (List UInt8))(o:List UInt8)(ho:o.length≤1000)(hM:ml L ws)(hw:ws.length≤65471) :
 ∃L',ml L' (ey ws ts).2∧F.zb.gK (X:=X) n kr L ws iL hZ uy uz uA uB sZ rS vs nG ts ou o 0 t0 ws.length o.length=kr (o++vr ws (sZ,rS,vs,nG,ts,ou)) 0 L' (ey ws ts).2 iL hZ uy uz uA uB t0 (ey ws ts).2.length (o++vr ws (sZ,rS,vs,nG,ts,ou)).length:=by
 have l1:=iI (n:=vs.length) (by omega);have l2:=iI (n:=nG.toNat) (by omega);have l3:=iI (n:=ts.length) (by omega);have l4:=iI (n:=ou.toNat) (by omega);have l5:=zgv vs hv;have l6:=Na ts ws ht (by omega);have p1:=jM n (by omega) vs.length (by omega);have p2:=jM n (by omega) nG.toNat (by omega);have p3:=jM n (by omega) ts.length (by omega);have p4:=jM n (by omega) ou.toNat (by omega);rw[show((nG.toNat:Nat):Int)=nG from by omega]at p2;rw[show((ou.toNat:Nat):Int)=ou from by omega]at p4;obtain⟨L',K1,e⟩:=zzp (X:=X) n hn (fun vu vw vx vy vA vB vC vD abU abV abW abX abY FL j9 vE A9 A_ EB =>
  (F.zi n (ag4 .u64 (FL))).bind fun FM =>
   bif vE==(0:Int)then
    bif decide ((j9.length+FM.length)*1≤2 ^ 46)&&decide (0<1∧1≤2 ^ 20)then
     bif aij EB j9.length then
      kr (j9++FM) (0:Int) vu vw vx vy vA vB vC vD A9 A_ ((j9++FM).length)
     else
      none
    else
     none
   else
   bif decide ((j9.length+FM.length)*1≤2 ^ 46)&&decide (0<1∧1≤2 ^ 20)then
    bif aij EB j9.length then
     bif !(vE==(0:Int))then
      kr [] vE vu vw vx vy vA vB vC vD A9 A_ 0
     else
      kr (j9++FM) (0:Int) vu vw vx vy vA vB vC vD A9 A_ ((j9++FM).length)
    else
     none
   else
    none) iL hZ uy uz uA uB sZ rS vs nG ou ts t0 (by omega) ht ts 0 n L ws (o++[ahs (ag4 .u8 rS).toNat]++bz vs.length++gS vs++bz nG.toNat++bz ts.length) (by simp) (by omega) (by simp only[ag1,ag0,ag9];omega) (by omega) hM (by omega)
 refine⟨L',K1,?_⟩;unfold F.zb.gK;rw[ot,gD (by omega),ahf,cond_true];unfold F.zb.mR;rw[zz (by omega),p1,za,ot,gD (by simp only[ag1,ag0,ag9];omega),ahf,cond_true];unfold F.zb.mQ;refine(zzn n hn _ _ _ _ _ _ _ _ _ _ _ _ _ _ vs _ _ (by omega) hv vs 0 n _ (by simp) (by omega) (by simp only[ag1,ag0,ag9];omega) (by omega)).trans ?_;rw[zz (by omega),p2,za,ot,gD (by simp only[ag1,ag0,ag9];omega),ahf,cond_true];unfold F.zb.mP;rw[zz (by omega),p3,za,ot,gD (by simp only[ag1,ag0,ag9];omega),ahf,cond_true];unfold F.zb.mO;refine e.trans ?_;rw[zz (by omega),p4,za,ot,gD (by simp only[ag1,ag0,ag9];omega),ahf,cond_true];simp only[vr,ahP]
end Go.AM
namespace Go.AM
theorem zji{c:UInt8}{a:List UInt8}(h:c∉a)(t:List UInt8):bj c (a++c::t)=a::bj c t:=by
 rw[zjg,if_pos (by simp)];have e:=uc h t;have e2:dw c (a++c::t)=t:=by unfold dw;rw[if_pos (by simp),e];simp
 rw[e,e2]
theorem zfr(c:UInt8)(y:List UInt8)(r:List (List UInt8)):aht [c] (y::r)=c::aic (y::r) [c]:=by rw[ais];simp[aht]
theorem Ni{c:UInt8}:∀(l:List (List UInt8)),l≠[]→(∀x∈l,c∉x)→bj c (aic l [c])=l
 |[],h,_=>absurd rfl h
 |[x],_,h=>by rw[Lib.join_one,WS c x (h x (by simp))]
 |x::y::r,_,h=>by rw[ais,zfr,zji (h x (by simp)),Ni (y::r) (by simp) (fun z hz=>h z (ahH _ hz))]
theorem zoi:∀i:Fin 256,(cls 1 (ahs i.val)=true→ahs i.val≠58∧ahs i.val≠124)∧(cls 2 (ahs i.val)=true→ahs i.val≠58∧ahs i.val≠124∧ahs i.val≠44)∧(cls 3 (ahs i.val)=true→ahs i.val≠124∧ahs i.val≠44)∧(ef (ahs i.val)=true→ahs i.val≠58∧ahs i.val≠124):=by decide +kernel
theorem lT(b:UInt8):(cls 1 b=true→b≠58∧b≠124)∧(cls 2 b=true→b≠58∧b≠124∧b≠44)∧(cls 3 b=true→b≠124∧b≠44)∧(ef b=true→b≠58∧b≠124):=by have h:=zoi ⟨b.toNat,by have:=b.toNat_lt;omega⟩;simpa using h
theorem zjj{s:List UInt8}(h:cX s=true):(58:UInt8)∉s∧(124:UInt8)∉s:=by rw[KQ]at h;simp only[ahd]at h;exact⟨fun hm=>((lT 58).1 (ahr.1 h.1 _ hm)).1 rfl,fun hm=>((lT 124).1 (ahr.1 h.1 _ hm)).2 rfl⟩
theorem zlu{t:ah}(h:dm t=true):(58:UInt8)∉t.1∧(124:UInt8)∉t.1∧(44:UInt8)∉t.1∧(124:UInt8)∉t.2∧(44:UInt8)∉t.2:=by
 unfold dm at h;simp only[ahd,beq_iff_eq]at h;have h1:=(kL h.1).2.2;have h2:=(kL h.2).2.2
 exact⟨fun hm=>((lT 58).2.1 (ahr.1 h1 _ hm)).1 rfl,fun hm=>((lT 124).2.1 (ahr.1 h1 _ hm)).2.1 rfl,fun hm=>((lT 44).2.1 (ahr.1 h1 _ hm)).2.2 rfl,
  fun hm=>((lT 124).2.2.1 (ahr.1 h2 _ hm)).1 rfl,fun hm=>((lT 44).2.2.1 (ahr.1 h2 _ hm)).2 rfl⟩
theorem zlv{t:ah}(h:dm t=true):(124:UInt8)∉ga t∧(44:UInt8)∉ga t:=by
 obtain⟨h1,h2,h3,h4,h5⟩:=zlu h;unfold ga;split
 ·exact⟨h2,h3⟩
 ·exact⟨by simp[h2,h4],by simp[h3,h5]⟩
theorem zlw{l:List UInt8}(h:cz l):(58:UInt8)∉l∧(124:UInt8)∉l:=⟨fun hm=>((lT 58).2.2.2 (ahr.1 h _ hm)).1 rfl,fun hm=>((lT 124).2.2.2 (ahr.1 h _ hm)).2 rfl⟩
theorem zhs(d:az):(58:UInt8)∉jq d∧(124:UInt8)∉jq d:=by
 refine⟨fun hm => ?_,zjb _ _ _⟩;rcases wI _ _ _ _ hm with⟨h,_⟩ |h|h
 ·cases h
 ·exact absurd h (by decide)
 ·cases h
theorem zfs:∀(vs:List az)(acc:List az)(a:Int),(∀d∈vs,de d∧fy d=0)→acc.length+vs.length≤64→gF (vs.map jq) acc a = .ok (acc++vs)
 |[],acc,a,_,_=>by simp[gF]
 |d::vs,acc,a,h,hl=>by obtain⟨hd,h0⟩:=h d (by simp);obtain⟨neg,c,e,rfl,hc,he⟩:=qO hd;have hp:ag (jq (neg,(c:Int),e))=((neg,(c:Int),e,()),(0,0,()),()):=ze9 neg c hc e h0;simp only[ag0]at hl;rw[ahy,gF,hp,if_pos ⟨rfl,by omega⟩,zfs vs _ _ (fun x hx=>h x (ahH _ hx)) (by simp;omega)];simp
theorem zvj{t:ah}(h:dm t=true):aX 58 (ga t)=t.1∧dw 58 (ga t)=t.2∧¬(58∈ga t∧t.2=[]):=by
 obtain⟨h1,h2,h3,h4,h5⟩:=zlu h;unfold ga;by_cases h0:t.2=[]
 ·rw[if_pos h0];obtain⟨e1,e2⟩:=zzj h1;rw[e1,e2,h0];exact⟨rfl,rfl,fun hh=>h1 hh.1⟩
 ·rw[if_neg h0];have e:t.1++([58]++t.2)=t.1++58::t.2:=by simp
  rw[e];have e1:=uc h1 t.2;refine⟨e1,?_,fun hh=>h0 hh.2⟩;unfold dw;rw[if_pos (by simp),e1];simp
theorem zjk:∀(ts acc:List ah)(a:Int),(∀t∈ts,dm t=true)→kQ (ts.map ga) acc a = .ok (acc++ts)
 |[],acc,a,_=>by simp[kQ]
 |t::ts,acc,a,h=>by obtain⟨h1,h2,h3⟩:=zvj (h t (by simp));have hg:dm (t.1,t.2)=true:=h t (by simp);rw[ahy,kQ,h1,h2,if_pos ⟨hg,h3⟩,zjk ts _ _ (fun x hx=>h x (ahH _ hx))];simp
theorem zss{vs:List az}(h:vs≠[]):iP vs=58::aic (vs.map jq) [58]:=by
 cases vs with
 |nil=>exact absurd rfl h
 |cons d vs =>rw[ahy,←zfr];simp[iP,aht];rfl
theorem zst{nm:List UInt8}{vs:List az}(hn:cX nm=true)(hv:(∀d∈vs,de d∧fy d=0)∧1≤vs.length∧vs.length≤64):jQ (nm++iP vs) = .ok (nm,vs):=by
 have c_:vs≠[]:=fun e=>by have:=hv.2.1;rw[e]at this;simp at this
 have hb:=(zjj hn).1;rw[zss c_];have e1:=uc hb (aic (vs.map jq) [58]);have e2:dw 58 (nm++58::aic (vs.map jq) [58])=aic (vs.map jq) [58]:=by unfold dw;rw[if_pos (by simp),e1];simp
 unfold jQ;rw[e1,e2,if_neg (by simp[hn]),if_neg (by simp),Ni (vs.map jq) (by simpa using c_) (fun x hx=>by obtain⟨d,_,rfl⟩:=aih.1 hx;exact(zhs d).1),zfs vs [] _ hv.1 (by simpa using hv.2.2)];rfl
theorem zvk{k:Int}(h:iD k=true):lC (nu k)=k:=by rcases M5 h with rfl|rfl|rfl|rfl|rfl<;>rfl
def rp(r:Int):List (List UInt8):=if r=1000000 then[]else[64::(ct r).1]
def pL(ts:List ah):List (List UInt8):=if ts=[]then[]else[35::gP ts]
def ov(t:Int):List (List UInt8):=if t=0 then[]else[84::ag3 t.toNat]
def oV(m:bh):List (List UInt8):=(m.1++iP m.2.2.1)::nu m.2.1::(rp m.2.2.2.1++pL m.2.2.2.2.1++ov m.2.2.2.2.2.1)
theorem zvl(m:bh):pK m=aic (oV m) [124]:=by
 unfold pK oV;rw[ais];have:∀a b:List (List UInt8),aht [124] (a++b)=aht [124] a++aht [124] b:=fun a b=>by simp[aht]
 rw[show nu m.2.1::(rp m.2.2.2.1++pL m.2.2.2.2.1++ov m.2.2.2.2.2.1)=[nu m.2.1]++rp m.2.2.2.1++pL m.2.2.2.2.1++ov m.2.2.2.2.2.1 by simp,this,this,this];have e1:aht [124] [nu m.2.1]=[124]++nu m.2.1:=by simp[aht]
 have e2:aht [124] (rp m.2.2.2.1)=mj m.2.2.2.1:=by unfold rp mj;split<;>simp[aht]
 have e3:aht [124] (pL m.2.2.2.2.1)=om m.2.2.2.2.1:=by unfold pL om;split<;>simp[aht]
 have e4:aht [124] (ov m.2.2.2.2.2.1)=ny m.2.2.2.2.2.1:=by unfold ov ny;split<;>simp[aht]
 rw[e1,e2,e3,e4];simp
theorem zoj{c:UInt8}{l:List (List UInt8)}(h:∀x∈l,c∉x):c∉l.flatten:=fun hm=>by obtain⟨x,hx,hc⟩:=List.mem_flatten.1 hm;exact h x hx hc
theorem zvm{c d:UInt8}(hcd:c≠d){l:List (List UInt8)}(h:∀x∈l,c∉x):c∉aic l [d]:=by
 cases l with
 |nil=>simp[aic]
 | cons x l =>
  rw[ais];intro hm;rcases ahL.1 hm with hm|hm
  ·exact h x (by simp) hm
  ·unfold aht at hm;refine zoj (l:=l.map ([d]++·)) (fun y hy => ?_) hm;obtain⟨z,hz,rfl⟩:=aih.1 hy;intro hc;rcases ahL.1 hc with hc|hc
   ·exact hcd (ahU.1 hc)
   ·exact h z (ahH _ hz) hc
theorem zlx{k r:Int}(h:ic k r=true):(124:UInt8)∉(ct r).1∧(r≠1000000→du (ct r).1=gy r 0 0):=by
 obtain⟨_,_,r1,r2⟩:=M6 h;by_cases e:r=1000000
 ·subst e;exact⟨by decide,fun h=>absurd rfl h⟩
 ·have hf:=rP (k:=r) ⟨r1,by omega⟩;have hp:=nF (k:=r.toNat) (by omega);have ht:=Cb (fA r.toNat);have hr:=zlm r ⟨r1,by omega⟩ 0;rw[hf];refine⟨?_,fun _ => ?_⟩
  ·have hd:cz (db (fA r.toNat)):=sT hp.2.2.1;have:=(zlw hd).2;simp[this]
  ·rw[List.replicate_zero,ahK,if_pos (by omega)]at hr;exact hr
theorem zpx{m:bh}(h:iv m):∀x∈oV m,(124:UInt8)∉x:=by
 unfold oV;intro x hx;rcases ahv.1 hx with rfl|hx
 ·have h1:=(zjj h.nm).2;have h2:(124:UInt8)∉iP m.2.2.1:=by unfold iP;refine zoj (fun y hy => ?_);obtain⟨d,_,rfl⟩:=aih.1 hy;have:=(zhs d).2;simp[this]
  simp[h1,h2]
 rcases ahv.1 hx with rfl|hx
 ·rcases M5 h.kd with e|e|e|e|e<;>rw[e]<;>decide
 rcases ahL.1 hx with hx|hx
 ·rcases ahL.1 hx with hx|hx
  ·unfold rp at hx;split at hx
   ·cases hx
   ·rw[ahU.1 hx];have:=(zlx h.rt).1;simp[this]
  ·unfold pL at hx;split at hx
   ·cases hx
   ·rw[ahU.1 hx];have:(124:UInt8)∉gP m.2.2.2.2.1:=zvm (by decide) (fun y hy=>by obtain⟨t,ht,rfl⟩:=aih.1 hy;exact(zlv (h.tg.1 t ht)).1);simp[this]
 ·unfold ov at hx;split at hx
  ·cases hx
  ·rw[ahU.1 hx];have:=(zlw (jy m.2.2.2.2.2.1.toNat)).2;simp[this]
theorem zvn{w:bh}{r:Int}(h:ic w.2.1 r=true)(hr:r≠1000000):jr w 0 (64::(ct r).1) = .ok ((w.1,w.2.1,w.2.2.1,r,w.2.2.2.2.1,w.2.2.2.2.2.1,()),1):=by
 have e:=(zlx h).2 hr;have hk:¬w.2.1=2:=fun h2=>by unfold ic at h;simp[h2,hr]at h
 rw[jr,if_pos rfl,if_neg (by omega),e,if_neg (by rintro (hh|hh);exact hh rfl;exact hk hh.1)];rfl
theorem zvo{w:bh}{ts:List ah}{last:Int}(hl:last≤1)(c_:ts≠[])(h:(∀t∈ts,dm t=true)∧ts.length≤32∧dt ts):jr w last (35::gP ts) = .ok ((w.1,w.2.1,w.2.2.1,w.2.2.2.1,ts,w.2.2.2.2.2.1,()),2):=by have e:bj 44 (gP ts)=ts.map ga:=Ni _ (by simpa using c_) (fun x hx=>by obtain⟨t,ht,rfl⟩:=aih.1 hx;exact(zlv (h.1 t ht)).2);rw[jr,if_neg (by decide),if_pos rfl,if_neg (by omega),e,zjk ts [] 0 h.1];dsimp only;rw[aik,if_neg (by have:=h.2.1;omega),zn1 h.2.2]
theorem zvp{w:bh}{t:Int}{last:Int}(hl:last≤2)(h:iE t=true)(h0:t≠0):jr w last (84::ag3 t.toNat) = .ok ((w.1,w.2.1,w.2.2.1,w.2.2.2.1,w.2.2.2.2.1,t,()),3):=by
 obtain⟨_,t1,t2⟩:=zig h;have e:=zn7 t.toNat (by omega) 1 1099511627776;rw[if_neg (by omega)]at e;rw[jr,if_neg (by decide),if_neg (by decide),if_pos rfl,if_neg (by omega),e];have:((t.toNat:Nat):Int)=t:=by omega
 rw[this];rfl
theorem zfh{p:List UInt8}{r:List (List UInt8)}{a:Int}{m m':bh}{last l':Int}(h:jr m last p = .ok (m',l')):kR (p::r) a m last=kR r (a+p.length+1) m' l':=by rw[kR,h]
theorem zvq{m:bh}(h:iv m)(a:Int):kR (rp m.2.2.2.1++pL m.2.2.2.2.1++ov m.2.2.2.2.2.1) a (m.1,m.2.1,m.2.2.1,1000000,[],0,()) 0 = .ok m:=by
 have yh:∀(a:Int)(w:bh)(last:Int),last≤2→w.2.2.2.2.2.1=0→kR (ov m.2.2.2.2.2.1) a w last = .ok (w.1,w.2.1,w.2.2.1,w.2.2.2.1,w.2.2.2.2.1,m.2.2.2.2.2.1,()):=by
  intro a w last hl hw;unfold ov;by_cases e:m.2.2.2.2.2.1=0
  ·rw[if_pos e,e,←hw];rfl
  ·rw[if_neg e,zfh (zvp hl h.tm e)];rfl
 have yi:∀(a:Int)(w:bh)(last:Int),last≤1→w.2.2.2.2.2.1=0→w.2.2.2.2.1=[]→kR (pL m.2.2.2.2.1++ov m.2.2.2.2.2.1) a w last = .ok (w.1,w.2.1,w.2.2.1,w.2.2.2.1,m.2.2.2.2.1,m.2.2.2.2.2.1,()):=by
  intro a w last hl hw ht;unfold pL;by_cases e:m.2.2.2.2.1=[]
  ·rw[if_pos e,aik,yh _ _ _ (by omega) hw,e,ht]
  ·rw[if_neg e,aib,zfh (zvo hl e h.tg)];exact yh _ (w.1,w.2.1,w.2.2.1,w.2.2.2.1,m.2.2.2.2.1,w.2.2.2.2.2.1,()) 2 (by omega) hw
 rw[ahP];unfold rp;by_cases e:m.2.2.2.1=1000000
 ·rw[if_pos e,aik,yi _ _ _ (by omega) rfl rfl,←e]
 ·rw[if_neg e,aib,zfh (zvn (w:=(m.1,m.2.1,m.2.2.1,1000000,[],0,())) h.rt e),yi _ _ _ (by omega) rfl rfl]
theorem zzr{t:ah}(h:dm t=true):(ga t).length≤165:=by unfold dm at h;simp only[ahd,beq_iff_eq]at h;have h1:=kL h.1;have h2:=kL h.2;unfold ga;split<;>simp<;>omega
theorem zpy{ts:List ah}(h:∀t∈ts,dm t=true)(hl:ts.length≤32):(gP ts).length≤5312:=by unfold gP;have:=zq5 [44] 165 (ts.map ga) (fun x hx=>by obtain⟨t,ht,rfl⟩:=aih.1 hx;exact zzr (h t ht));rw[aiL]at this;have h2:ts.length*(165+[(44:UInt8)].length)≤32*166:=Nat.mul_le_mul_right _ hl;omega
theorem zok{m:bh}(h:iv m):(pK m).length≤8192:=by
 have h1:=uf h.nm;have h2:=zn9 h.vs.1;have h3:=zjd m.2.1;have h4:=(M6 h.rt).1;have h6:=(zig h.tm).1;have h5:(om m.2.2.2.2.1).length≤5314:=by
  have:=zpy h.tg.1 h.tg.2.1;unfold om;split
  ·simp
  ·simp only[ag1,ag0,ag9];omega
 have:=h.vs.2.2;unfold pK;simp only[ag1,ag0,ag9];omega
theorem zsu{m:bh}(h:iv m):mU (pK m)=(m,(0,0,()),()):=by have hl:=zok h;unfold mU;rw[if_neg (by omega),zvl,Ni _ (by simp[oV]) (zpx h)];unfold oV;rw[nQ,zst h.nm h.vs];dsimp only;rw[lV,zvk h.kd,if_neg (by rcases M5 h.kd with e|e|e|e|e<;>rw[e]<;>decide),zvq h];rfl
theorem zjl(n:Nat)(a b:ah):F.qn n (a.1,a.2,()) (b.1,b.2,())=some (iB a b):=by
 unfold F.qn iB;dsimp only;by_cases e:a.1=b.1
 ·rw[if_pos e,e,beq_self_eq_true];rfl
 ·rw[if_neg e,beq_eq_false_iff_ne.2 e];rfl
theorem zsv(n:Nat)(X:Type)(k0:Unit→Option X)(kr:Bool→Option X)(l:List ah)(hl:l.length≤1000)(hs:dt l):∀(j i m:Nat),i+j=l.length→1≤i→j<m→F.lT.L2 n k0 kr m l (i:Int)=k0 ():=by
 intro j;induction j with
 |zero =>intro i m h1 hi hm;obtain⟨m,rfl⟩:∃q,m=q+1:=⟨m - 1,by omega⟩;rw[F.lT.L2];unfold F.lT.L2.step;dsimp only;rw[ze (by omega)]
 |succ j ih =>
  intro i m h1 hi hm;obtain⟨m,rfl⟩:∃q,m=q+1:=⟨m - 1,by omega⟩;have hw:ag4 .i64 ((i:Int) - 1)=((i - 1:Nat):Int):=by rw[zh (by omega)];omega
  have bo:iB l[i - 1] l[i]=true:=List.pairwise_iff_getElem.1 hs (i - 1) i (by omega) (by omega) (by omega);rw[F.lT.L2];unfold F.lT.L2.step;dsimp only;rw[zd (by omega),hw,qh (by omega:i - 1<l.length),za,qh (by omega:i<l.length),za,zjl,za,bo,ag5,cond_false,zi (by omega),ih (i+1) m (by omega) (by omega) (by omega)]
theorem zzs(n:Nat)(hn:200000≤n)(l:List ah)(hl:l.length≤1000)(hs:dt l):F.lT n l=some true:=by
 unfold F.lT;by_cases h:l=[]
 ·subst h;obtain⟨m,rfl⟩:∃q,n=q+1:=⟨n - 1,by omega⟩;rfl
 ·have:=ahS.2 h;exact zsv n Bool _ _ l hl hs (l.length - 1) 1 n (by omega) (by omega) (by omega)
theorem zzt(n:Nat)(hn:200000≤n){m:bh}(h:iv m):F.xk n m=some true:=by unfold F.xk;have hc:F.zp n (m.1,m.2.1,m.2.2.1,m.2.2.2.1,m.2.2.2.2.1,m.2.2.2.2.2.1,())=some (jm m):=wH n hn m h.right.ok;rw[hc,za,h.right.A8,beq_self_eq_true,cond_true,zzs n hn _ (by have:=h.tg.2.1;omega) h.tg.2.2];rfl
end Go.AM
namespace Go.AM
theorem zvr(ws:List (List UInt8))(m:au):(iK ws m).1=(cl ws m.1).1++vr (cl ws m.1).2 m:=by simp only[iK,vr,ahP]
structure K2 (m:au):Prop where
 nm:m.1.length≤200
 vs:∀d∈m.2.2.1,de d∧fy d=0
 vl:m.2.2.1.length≤64
 rt:0≤m.2.2.2.1∧m.2.2.2.1≤1000000
 tg:∀t∈m.2.2.2.2.1,t.1.length≤200∧t.2.length≤200
 tl:m.2.2.2.2.1.length≤32
 tm:0≤m.2.2.2.2.2∧m.2.2.2.2.2≤1099511627776
theorem zvs{m:au}(h:fT (eK m))(hs:dt m.2.2.2.2.1):K2 m:=by
 have hi:=h.inv hs;refine⟨(uf hi.nm).2,hi.vs.1,hi.vs.2.2,?_,fun t ht => ?_,hi.tg.2.1,?_⟩
 ·have:=hi.rt;unfold ic at this;simp only[ahd,decide_eq_true_eq]at this;have h1:1≤m.2.2.2.1:=this.1;exact⟨by omega,this.2.1⟩
 ·have:=hi.tg.1 t ht;unfold dm at this;simp only[ahd,beq_iff_eq]at this;have h1:=kL this.1;have h2:=kL this.2;omega
 ·have:=hi.tm;unfold iE at this;simp only[ahd,decide_eq_true_eq]at this;exact this
theorem z29{m:au}(h:K2 m){ws:List (List UInt8)}(hw:ws.length≤65400):(iK ws m).1.length≤16000∧(iK ws m).2.length≤ws.length+65:=by have h1:=oM (ws:=ws) h.nm (by omega);have h2:=zgv _ h.vs;have h3:=Na _ (cl ws m.1).2 h.tg (by have:=h.tl;omega);have l1:=iI (n:=m.2.2.1.length) (by have:=h.vl;omega);have l2:=iI (n:=m.2.2.2.1.toNat) (by have:=h.rt;omega);have l3:=iI (n:=m.2.2.2.2.1.length) (by have:=h.tl;omega);have l4:=iI (n:=m.2.2.2.2.2.toNat) (by have:=h.tm;omega);have:=h.vl;have:=h.tl;simp only[iK,ag1,ag0,ag9];omega
theorem zsw {X : Type} (n : Nat) (hn:200000≤n) (a0:_) (k0:_) (kr:_) (K:List UInt8→Option X) (hk:∀p L w,k0 a0 p L w p.length w.length=K p) (q:List au) (hq:q.length≤1000) (hR:∀m∈q,fT (eK m)∧dt m.2.2.2.2.1) :
 ∀(r:List au)(i m:Nat)(L:List (List UInt8×Int))(ws:List (List UInt8))(p:List UInt8),q.drop i=r→r.length<m→ml L ws→ws.length≤65*i→p.length≤20+16000*i→i≤q.length →
 F.zb.L7 (X:=X) n k0 kr m a0 p q (q.length:Int) (i:Int) L ws p.length ws.length=K (p++kT ws r):=by
 intro r;induction r with
 |nil =>intro i m L ws p h1 hm hM hw hp hi;obtain⟨m,rfl⟩:∃q,m=q+1:=⟨m - 1,by omega⟩;rw[F.zb.L7];unfold F.zb.L7.step;dsimp only;rw[ze (by have:=zm h1;omega),hk];simp[kT]
 | cons x r ih =>
  intro i m L ws p h1 hm hM hw hp hi;obtain⟨m,rfl⟩:∃q,m=q+1:=⟨m - 1,by simp at hm;omega⟩;obtain⟨l1,g1,t1⟩:=zl h1;simp only[ag0]at hm;obtain⟨hx,hs⟩:=hR x (ahx g1);have hP:=zvs hx hs;have hl:=z29 hP (ws:=ws) (by omega);have e1:F.zp n (x.1,x.2.1,x.2.2.1,x.2.2.2.1,x.2.2.2.2.1,x.2.2.2.2.2,())=some 0:=by rw[←hx.A8];exact wH n hn (eK x) hx.ok
  have e2:F.xk n (x.1,x.2.1,x.2.2.1,x.2.2.2.1,x.2.2.2.2.1,x.2.2.2.2.2,())=some true:=zzt n hn (hx.inv hs);have d1:=oM (ws:=ws) hP.nm (by omega);obtain⟨L',K1,e⟩ := zzq (X:=X) n hn (fun Dv Dw vF vG FN FP FQ FR FU FV Ba Bb Bc =>
   F.zb.qN n
    (fun Dx Dy Dz vH vI Bd Be =>kr Dx Dy Dz vH vI Bd Be)
    (fun DA DB Bf Bg Bh vJ vK Bi Bj =>F.zb.L7 n k0 kr m DA DB Bf Bg (ag4 .i64 (Bh+(1:Int))) vJ vK Bi Bj) a0 p (i:Int) Dv Dw q (q.length:Int) (i:Int) vF vG Ba Bc Bb)
   x.1 x.2.1 x.2.2.1 x.2.2.2.1 x.2.2.2.2.1 x.2.2.2.2.2 x.1 x.2.1 x.2.2.1 x.2.2.2.1 x.2.2.2.2.1 x.2.2.2.2.2 p.length hP.vs hP.vl hP.rt hP.tg hP.tl hP.tm (dmap L ws x.1) (cl ws x.1).2 (cl ws x.1).1 (by omega) (hM.put x.1) (by omega)
  have pT:(cl ws x.1).1++vr (cl ws x.1).2 (x.1,x.2.1,x.2.2.1,x.2.2.2.1,x.2.2.2.2.1,x.2.2.2.2.2)=(iK ws x).1:=(zvr ws x).symm;have e3:=ih (i+1) m L' (iK ws x).2 (p++(iK ws x).1) t1 (by omega) K1 (by omega) (by simp only[ag1];omega) (by omega)
  have key : ∀(o1 : List UInt8)(w1:List (List UInt8))(M1:List (List UInt8×Int)),o1=(cl ws x.1).1→w1=(cl ws x.1).2→M1=dmap L ws x.1 →
   F.zb.gK n (fun Dv Dw vF vG FN FP FQ FR FU FV Ba Bb Bc =>
                       F.zb.qN n
                        (fun Dx Dy Dz vH vI Bd Be =>kr Dx Dy Dz vH vI Bd Be)
                        (fun DA DB Bf Bg Bh vJ vK Bi Bj =>F.zb.L7 n k0 kr m DA DB Bf Bg (ag4 .i64 (Bh+(1:Int))) vJ vK Bi Bj) a0 p (i:Int) Dv Dw q (q.length:Int) (i:Int) vF vG Ba Bc Bb)
    M1 w1 x.1 x.2.1 x.2.2.1 x.2.2.2.1 x.2.2.2.2.1 x.2.2.2.2.2 x.1 x.2.1 x.2.2.1 x.2.2.2.1 x.2.2.2.2.1 x.2.2.2.2.2 o1 0 p.length w1.length o1.length=K (p++kT ws (x::r)):=by
   intro o1 w1 M1 q1 q2 q3;subst q1 q2 q3;rw[e,pT];unfold F.zb.qN;rw[show(!((0:Int)==(0:Int)))=false from rfl,cond_false,gD (by omega),ahf,cond_true];dsimp only;rw[zi (by omega)];refine e3.trans ?_;simp only[kT,ahP]
  rw[F.zb.L7];unfold F.zb.L7.step;dsimp only;rw[zd (by omega),zp,g1,za,e1,za,show(!((0:Int)==(0:Int)))=false from rfl,cond_false,e2,za,ag5,cond_false,ze (by omega)];refine(zgu n (by omega) hM hP.nm (by omega)).trans ?_;unfold cl at d1 key;unfold dmap at key;by_cases hf:ck x.1 ws 0=0
  ·rw[if_pos hf]at d1;simp only[if_pos hf]at key ⊢;simp only at d1;rw[gD (by omega)];exact key _ _ _ rfl rfl rfl
  ·rw[if_neg hf]at d1;simp only[if_neg hf]at key ⊢;simp only at d1;rw[gD (by omega)];exact key _ _ _ rfl rfl rfl
def iH(l:List au):List UInt8×Int×Int×Unit:=
 if(cw l).2.2.1=0 then
  let p:=bz (cw l).1.length++kT [] (cw l).1
  if 1048576<p.length then([],(l.length:Int),12,())else
   let o:=[ahs ((77:Int)).toNat,ahs ((71:Int)).toNat,ahs ((1:Int)).toNat]++bz p.length++p
   (o++oP o,0,0,())
 else([],(cw l).2.1,(cw l).2.2.1,())
theorem zht(n:Nat)(hn:2000000≤n)(l:List au)(cb:iG l):F.zb n l=some (iH l):=by
 unfold F.zb iH;rw[zdr n (by omega) l cb,za];rcases rM cb with⟨h1,h2,h3,h4⟩ |⟨i,e,h1,h2⟩
 ·have hc:(cw l).2.2.1=0:=by rw[h1]
  have hl:=iI (n:=(cw l).1.length) (by have:=h2.1;omega);rw[hc,if_pos rfl,show(!((0:Int)==(0:Int)))=false from rfl,cond_false,zz (by have:=h2.1;omega),jM n (by omega) _ (by have:=h2.1;omega),za];have y7:ml [] []:=fun s=>rfl
  refine(zsw n (by omega) l _ _ (fun p=>if 1048576<p.length then some ([],(l.length:Int),12,())else
   some ([ahs ((77:Int)).toNat,ahs ((71:Int)).toNat,ahs ((1:Int)).toNat]++bz p.length++p++oP ([ahs ((77:Int)).toNat,ahs ((71:Int)).toNat,ahs ((1:Int)).toNat]++bz p.length++p),0,0,())) ?_ (cw l).1 h2.1 h2.2 (cw l).1 0 n [] [] _ (by simp) (by have:=h2.1;omega) y7 (by simp) (by omega) (by omega)).trans ?_
  ·intro p L w;by_cases hp:1048576<p.length
   ·rw[zd (by omega),if_pos hp]
   ·have l2:=iI (n:=p.length) (by omega);have lc:∀o,(oP o).length=4:=fun o=>rfl
    rw[ze (by omega),if_neg hp,zz (by omega),jM n (by omega) _ (by omega),za,gD (by omega),gD (by simp only[ag1,ag0,ag9];omega),ahf,cond_true,
     zk9 n (by omega) _ (by simp only[ag1,ag0,ag9];omega) (by simp only[ag1,ag0,ag9];omega),za,zhm,za,
     gD (by rw[lc];simp only[ag1,ag0,ag9];omega),ahf,cond_true]
  ·simp only;split<;>rfl
 ·rw[h2,if_neg h1];dsimp only;rw[beq_eq_false_iff_ne.2 h1,ahc,cond_true]
end Go.AM
namespace Go.AM
end Go.AM
namespace Go.AM
end Go.AM
namespace Go.AM
def kindOf(s:List UInt8):Int:=if s=[99]then 1 else if s=[103]then 2 else if s=[109,115]then 3 else if s=[104]then 4 else 0
def yj(s:List UInt8):Int×Int×Unit:=if kindOf s=0 then(0,16,())else(kindOf s,0,())
theorem wM(n m:Nat){X:Type}(k0:Unit→Option X)(kr:Int→Int→Option X)(s:List UInt8)(v:Int):F.jw.L2 n k0 kr (m+1) s v=F.jw.L2.step n (F.jw.L2 n k0 kr m) k0 kr s v:=rfl
theorem K3(n:Nat){X:Type}(rec:List UInt8→Int→Option X)(k0:Unit→Option X)(kr:Int→Int→Option X)(s:List UInt8)(v:Int)(h:v≤5)(h1:1≤v):F.jw.L2.step n rec k0 kr s v=if v≤4∧fL v=s then kr v 0 else rec s (v+1):=by
 unfold F.jw.L2.step;rw[zd h];simp only[O.word,za];rw[zh (by omega)];by_cases h4:v≤4
 ·have hE:np v=0:=by unfold np;rw[if_pos (by omega)]
  rw[hE];by_cases hs:fL v=s
  ·rw[if_pos ⟨h4,hs⟩,hs];simp
  ·rw[if_neg (fun hh=>hs hh.2),beq_eq_false_iff_ne.2 hs];rfl
 ·have hE:np v=16:=by unfold np;rw[if_neg (by omega)]
  rw[hE,if_neg (fun hh=>h4 hh.1)];rfl
theorem zvt(n:Nat)(hn:10≤n)(s:List UInt8):F.jw n s=some (yj s):=by
 unfold F.jw;obtain⟨m,hm⟩:∃q,n=q+6:=⟨n - 6,by omega⟩;have key:∀(X:Type)(k0:Unit→Option X)(kr:Int→Int→Option X),F.jw.L2 n k0 kr (m+6) s 1=if kindOf s=0 then k0 ()else kr (kindOf s) 0:=by
  intro X k0 kr;rw[wM n (m+5),K3 n _ _ _ _ _ (by omega) (by omega)];unfold kindOf;have w1:fL 1=[99]:=rfl;have w2:fL 2=[103]:=rfl;have w3:fL 3=[109,115]:=rfl;have w4:fL 4=[104]:=rfl;by_cases h1:s=[99]
  ·rw[if_pos ⟨by omega,by rw[h1];rfl⟩,if_pos h1];rfl
  rw[if_neg (fun h=>h1 (by rw[←h.2];rfl)),if_neg h1,wM n (m+4),K3 n _ _ _ _ _ (by omega) (by omega)];by_cases h2:s=[103]
  ·rw[if_pos ⟨by omega,by rw[h2];rfl⟩,if_pos h2];rfl
  rw[if_neg (fun h=>h2 (by rw[←h.2];rfl)),if_neg h2,wM n (m+3),K3 n _ _ _ _ _ (by omega) (by omega)];by_cases h3:s=[109,115]
  ·rw[if_pos ⟨by omega,by rw[h3];rfl⟩,if_pos h3];rfl
  rw[if_neg (fun h=>h3 (by rw[←h.2];rfl)),if_neg h3,wM n (m+2),K3 n _ _ _ _ _ (by omega) (by omega)];by_cases h4:s=[104]
  ·rw[if_pos ⟨by omega,by rw[h4];rfl⟩,if_pos h4];rfl
  rw[if_neg (fun h=>h4 (by rw[←h.2];rfl)),if_neg h4,wM n (m+1),K3 n _ _ _ _ _ (by omega) (by omega),if_neg (fun h=>by have:=h.1;omega),wM n m];unfold F.jw.L2.step;rw[ze (by omega)];rfl
 rw[←hm]at key;rw[key];unfold yj;by_cases h:kindOf s=0
 ·rw[if_pos h,if_pos h]
 ·rw[if_neg h,if_neg h]
end Go.AM
