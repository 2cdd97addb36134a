/- Part 7 of a proof by the abstract machine. -/
import Derived.Test.YtodkiaiclgdifaaGreatDoorQ6
import Derived.KernelRfl
import Derived.Test.YtodkiaiclgdifaaGreatDoorCards
import Derived.Test.YtodkiaiclgdifaaGreatDoorTie
import Derived.OpenShut
open Go.IntKind renaming wrap→aiS,bits→amD
open Bool renaming not_true→aiT,and_eq_true→aiX,not_false→ai2,not_eq_true'→al2,or_eq_true→amq,true_and→amw
open List renaming length_cons→ai0,length_append→ai3,all_eq_true→ai4,getElem?_eq_getElem→ai5,length_drop→ai6,nil_append→ai8,drop_eq_getElem_cons→ai9,getElem?_eq_some_iff→ak6,append_nil→ak9,length_map→als,drop_zero→alu,length_nil→alG,append_assoc→alK,mem_of_getElem?→alN,drop_drop→alO,mem_map→alS,getElem?_eq_none→al8,drop_succ_cons→ama,mem_singleton→ame,drop_left→amj,drop_eq_nil_of_le→aml,length→amm,mem_cons→amp,all_cons→amu,flatten_cons→amy,drop_append→amA,take_length→amB
open UInt8 renaming ofNat→ai1,ofNat_toNat→amk
open Or renaming inl→ai7,inr→ak0
open BitVec renaming ofInt→ak1,toNat_ofInt→alF
open Nat renaming mul_le_mul_right→ak5,pow_succ→alT,add_assoc→al1,beq_refl→amd,mul_comm→amh,pow_le_pow_right→amr,shiftLeft_add_eq_or_of_lt→ams,zero_le→amt,mod_eq_of_lt→amE
open Classical renaming not_not→alJ,byContradiction→amz
open Go.OpenSpec renaming ofChange→al7
open Option renaming bind→amn
open Go.Lib renaming decDigits→amo
open List.cons renaming inj→amv
open Option.some renaming inj→amI
open Except renaming ok→amJ
set_option linter.unusedVariables false
set_option linter.unusedSimpArgs false
namespace Go.AM
abbrev Bk(X:Type):=List UInt8→List UInt8→Int→List (Bool×Int×Int)→Int→List (List UInt8×List UInt8)→Int→Int→Int→Option X
section
variable {X:Type} (n:Nat) (kr:Bk X)
def lD(kr:Bk X)(s:List UInt8)(c a:Int):Option X:=kr s [] 0 [] 0 [] 0 c a
theorem zvu(c9:Bool)(s:List UInt8)(jA:List UInt8)(jU:Int)(jV:List (Bool×Int×Int))(jW:Int)(jX:List (List UInt8×List UInt8))(jY iL hZ b3:Int)(d0:List UInt8)(d1:Int)(d2:List (Bool×Int×Int))(d3:Int)(d4:List (List UInt8×List UInt8))(d5:Int)(k0 k1 k2 k3:Nat) :
 F.zd.Ht n kr c9 s jA jU jV jW jX jY iL hZ b3 d0 d1 d2 d3 d4 d5 k0 k1 k2 k3=if c9=true then lD kr s 11 (aiS .i64 (b3 - 1))else kr s d0 d1 d2 d3 d4 d5 0 0:=by
 cases c9<;>rfl
theorem zvv(hn:100≤n)(c9:Bool)(kind:Int)(mC:List UInt8)(hr:mC.length≤10000)(hl:mC.length<n)(at':Int)(s:List UInt8)(jA:List UInt8)(jU:Int)(jV:List (Bool×Int×Int))(jW:Int)(jX:List (List UInt8×List UInt8))(jY iL hZ b3:Int)(d0:List UInt8)(d1:Int)(d2:List (Bool×Int×Int))(d3:Int)(d4:List (List UInt8×List UInt8))(d5:Int)(e0:Bool)(e1 e2 f0 f1:Int)(k0 k1 k2 k3:Nat) :
 F.zd.Hu n kr c9 kind mC at' s jA jU jV jW jX jY iL hZ b3 d0 d1 d2 d3 d4 d5 e0 e1 e2 f0 f1 k0 k1 k2 k3 =
  if ¬(du mC).2.1.1=0∨(kind=2∧¬(du mC).1=1000000)then lD kr s 18 at' else if c9=true then lD kr s 11 (aiS .i64 (b3 - 1))else kr s d0 d1 d2 (du mC).1 d4 d5 0 0:=by
 unfold F.zd.Hu;rw[zn8 n hn mC (by omega) hl,za];have c30:∀(kn:Bool→List UInt8→List UInt8→Int→List (Bool×Int×Int)→Int→List (List UInt8×List UInt8)→Int→Int→Int→Int→List UInt8→Int→List (Bool×Int×Int)→Int→List (List UInt8×List UInt8)→Int→Nat→Nat→Nat→Nat→Option X)(t:Bool)(r:Int),F.zd.Hs n kr kn c9 at' t s jA jU jV jW jX jY iL hZ b3 d0 d1 d2 r d4 d5 k0 k1 k2 k3=if t=true then lD kr s 18 at' else kn c9 s jA jU jV jW jX jY iL hZ b3 d0 d1 d2 r d4 d5 k0 k1 k2 k3:=by intro kn t r;cases t<;>rfl
 by_cases h0:(du mC).2.1.1=0
 ·have h1:=(zkd h0).1;have e:(!((du mC).2.1.1==0&&(du mC).2.1.2.1==0))=false:=by rw[h0,h1];rfl
  rw[e,cond_false];by_cases hk:kind=2
  ·have ek:(kind==2)=true:=by simp[hk]
   rw[ek,cond_true];refine(c30 _ _ _).trans ?_;by_cases ju:(du mC).1=1000000
   ·have e2:(!((du mC).1==1000000))=false:=by simp[ju]
    rw[e2,if_neg (by simp),if_neg (by simp[h0,ju])];exact zvu n kr c9 s jA jU jV jW jX jY iL hZ b3 d0 d1 d2 _ d4 d5 k0 k1 k2 k3
   ·have e2:(!((du mC).1==1000000))=true:=by simpa using ju
    rw[e2,if_pos rfl,if_pos (ak0 ⟨hk,ju⟩)]
  ·have ek:(kind==2)=false:=by simpa using hk
   rw[ek,cond_false];refine(c30 _ _ _).trans ?_;rw[if_neg (by simp),if_neg (by simp[h0,hk])];exact zvu n kr c9 s jA jU jV jW jX jY iL hZ b3 d0 d1 d2 _ d4 d5 k0 k1 k2 k3
 ·have e:(!((du mC).2.1.1==0&&(du mC).2.1.2.1==0))=true:=by
   have:((du mC).2.1.1==0)=false:=by simpa using h0
   rw[this];rfl
  rw[e,cond_true];refine(c30 _ _ _).trans ?_;rw[if_pos rfl,if_pos (ai7 h0)]
def yk(kr:Bk X)(s name:List UInt8)(kind:Int)(v:List (Bool×Int×Int))(r0:Int)(tags:List (List UInt8×List UInt8))(time:Int)(wR:Bool)(p:Nat):Option X:=
 if wR=false then kr s name kind v r0 tags time 0 0
 else if ¬(s.drop p).head? = some 64 then lD kr s 11 p
 else if ¬(du (aX 124 (s.drop (p+1)))).2.1.1=0∨(kind=2∧¬(du (aX 124 (s.drop (p+1)))).1=1000000)then lD kr s 18 ((p+1:Nat):Int)
 else if 124∈s.drop (p+1)then lD kr s 11 ((p+1+(aX 124 (s.drop (p+1))).length:Nat):Int)else kr s name kind v (du (aX 124 (s.drop (p+1)))).1 tags time 0 0
theorem zvw(hn:20000≤n)(name:List UInt8)(wR:Bool)(kind:Int)(s:List UInt8)(hs:s.length≤10000)(jA:List UInt8)(jU:Int)(jV:List (Bool×Int×Int))(jW:Int)(jX:List (List UInt8×List UInt8))(jY iL hZ:Int)(p:Nat)(hp:p≤s.length)(d0:List UInt8)(d1:Int)(d2:List (Bool×Int×Int))(d3:Int)(d4:List (List UInt8×List UInt8))(d5:Int)(e0:Bool)(e1 e2 f0 f1:Int)(k0 k1 k2 k3:Nat) :
 F.zd.Hv n kr name wR kind s jA jU jV jW jX jY iL hZ (p:Int) d0 d1 d2 d3 d4 d5 e0 e1 e2 f0 f1 k0 k1 k2 k3=yk kr s name kind [(e0,e1,e2)] d3 d4 d5 wR p:=by
 unfold F.zd.Hv yk;cases wR
 ·rfl
 ·rw[aiT,cond_false,if_neg (by simp),rN hp,za,vg,za];by_cases wP:(s.drop p).head? = some 64
  ·have bo:=zqw wP;have lN:=k9 124 (s.drop (p+1));have Dk:(s.drop (p+1)).length=s.length - (p+1):=by simp
   rw[decide_eq_true wP,aiT,cond_false,if_neg (fun h=>h wP),zi (by omega),rN (by omega),za,rO n 124 (by omega),za];have w1:aiS .i64 (((p+1:Nat):Int)+((aX 124 (s.drop (p+1))).length:Int))=((p+1+(aX 124 (s.drop (p+1))).length:Nat):Int):=by rw[zh (by omega)];omega
   simp only[w1];by_cases hm:124∈s.drop (p+1)
   ·simp only[hm,decide_true,cond_true,if_true];rw[zi (by omega)];refine(zvv n kr (by omega) true kind _ (by omega) (by omega) _ s jA jU jV jW jX jY iL hZ _ name kind [(e0,e1,e2)] d3 d4 d5 e0 e1 e2 f0 f1 k0 k1 1 k3).trans ?_;rw[if_pos rfl,zh (by omega)];congr 2;omega
   ·simp only[hm,decide_false,cond_false,if_false];exact(zvv n kr (by omega) false kind _ (by omega) (by omega) _ s jA jU jV jW jX jY iL hZ _ name kind [(e0,e1,e2)] d3 d4 d5 e0 e1 e2 f0 f1 k0 k1 1 k3)
  ·rw[decide_eq_false wP,ai2,cond_true,if_pos wP];rfl
def s9(kr:Bk X)(s name:List UInt8)(word value:List UInt8)(av aw:Int)(v:List (Bool×Int×Int))(r0:Int)(tags:List (List UInt8×List UInt8))(time:Int)(wR:Bool)(p:Nat):Option X:=
 if kindOf word=0 then lD kr s 16 aw else if kindOf word=2∧value.head? = some 45 then lD kr s 26 av else yk kr s name (kindOf word) v r0 tags time wR p
theorem zvx(hn:20000≤n)(name:List UInt8)(wR:Bool)(value:List UInt8)(av:Int)(word:List UInt8)(aw:Int)(s:List UInt8)(hs:s.length≤10000)(jA:List UInt8)(jU:Int)(jV:List (Bool×Int×Int))(jW:Int)(jX:List (List UInt8×List UInt8))(jY iL hZ:Int)(p:Nat)(hp:p≤s.length)(d0:List UInt8)(d1:Int)(d2:List (Bool×Int×Int))(d3:Int)(d4:List (List UInt8×List UInt8))(d5:Int)(e0:Bool)(e1 e2 f0 f1:Int)(k0 k1 k2 k3:Nat) :
 F.zd.ve n kr name wR value av word aw s jA jU jV jW jX jY iL hZ (p:Int) d0 d1 d2 d3 d4 d5 e0 e1 e2 f0 f1 k0 k1 k2 k3=s9 kr s name word value av aw [(e0,e1,e2)] d3 d4 d5 wR p:=by
 unfold F.zd.ve s9;rw[zvt n (by omega),za];unfold yj;by_cases h0:kindOf word=0
 ·rw[if_pos h0,if_pos h0];rfl
 ·have U1:(!((0:Int)==0))=false:=rfl;rw[if_neg h0,if_neg h0];simp only[U1,cond_false];by_cases h2:kindOf word=2
  ·have e2':(kindOf word==2)=true:=by simp[h2]
   rw[e2',cond_true,vg,za];by_cases FX:value.head? = some 45
   ·rw[decide_eq_true FX,cond_true,if_pos ⟨h2,FX⟩];rfl
   ·rw[decide_eq_false FX,cond_false,if_neg (fun h=>FX h.2)];exact zvw n kr hn name wR _ s hs jA jU jV jW jX jY iL hZ p hp d0 d1 d2 d3 d4 d5 e0 e1 e2 f0 f1 k0 k1 k2 k3
  ·have e2':(kindOf word==2)=false:=by simpa using h2
   rw[e2',cond_false,if_neg (fun h=>h2 h.1)];exact zvw n kr hn name wR _ s hs jA jU jV jW jX jY iL hZ p hp d0 d1 d2 d3 d4 d5 e0 e1 e2 f0 f1 k0 k1 k2 k3
def nR(kr:Bk X)(s name:List UInt8)(value:List UInt8)(av:Nat)(r0:Int)(tags:List (List UInt8×List UInt8))(time:Int)(K4:Bool)(p:Nat):Option X:=
 if ¬(ag value).2.1.1=0 then lD kr s 17 av else if K4=false then lD kr s 11 s.length
 else s9 kr s name (aX 124 (s.drop p)) value av p [((ag value).1.1,(ag value).1.2.1,(ag value).1.2.2.1)] r0 tags time (decide (124∈s.drop p)) (fD 124 s p)
theorem zvy(hn:200000≤n)(name:List UInt8)(K4:Bool)(value:List UInt8)(hv:value.length≤10000)(av:Nat)(s:List UInt8)(hs:s.length≤10000)(jA:List UInt8)(jU:Int)(jV:List (Bool×Int×Int))(jW:Int)(jX:List (List UInt8×List UInt8))(jY iL hZ:Int)(p:Nat)(hp:p≤s.length)(d0:List UInt8)(d1:Int)(d2:List (Bool×Int×Int))(d3:Int)(d4:List (List UInt8×List UInt8))(d5:Int)(k0 k1 k2 k3:Nat) :
 F.zd.qN n kr name K4 value (av:Int) s jA jU jV jW jX jY iL hZ (p:Int) d0 d1 d2 d3 d4 d5 k0 k1 k2 k3=nR kr s name value av d3 d4 d5 K4 p:=by
 unfold F.zd.qN nR;rw[zee n hn value hv,za];by_cases h0:(ag value).2.1.1=0
 ·have e:(!((ag value).2.1.1==0&&(ag value).2.1.2.1==0))=false:=by rw[h0,KP h0];rfl
  rw[e,cond_false,if_neg (fun h=>h h0)];cases K4
  ·rfl
  ·have lN:=k9 124 (s.drop p);have Dk:(s.drop p).length=s.length - p:=by simp
   have sF:=zic (c:=124) hp;rw[aiT,cond_false,if_neg (by simp),rN hp,za,rO n 124 (by omega),za];have w1:aiS .i64 ((p:Int)+((aX 124 (s.drop p)).length:Int))=((p+(aX 124 (s.drop p)).length:Nat):Int):=by rw[zh (by omega)];omega
   simp only[w1];by_cases hm:124∈s.drop p
   ·have hq:fD 124 s p=p+(aX 124 (s.drop p)).length+1:=by unfold fD;rw[if_pos hm]
    simp only[hm,decide_true,cond_true];rw[zi (by omega),←hq];exact zvx n kr (by omega) name true value _ _ _ s hs jA jU jV jW jX jY iL hZ _ sF d0 d1 d2 d3 d4 d5 _ _ _ _ _ k0 k1 k2 k3
   ·have hq:fD 124 s p=p+(aX 124 (s.drop p)).length:=by unfold fD;rw[if_neg hm];rfl
    simp only[hm,decide_false,cond_false];rw[←hq];exact zvx n kr (by omega) name false value _ _ _ s hs jA jU jV jW jX jY iL hZ _ sF d0 d1 d2 d3 d4 d5 _ _ _ _ _ k0 k1 k2 k3
 ·have e:(!((ag value).2.1.1==0&&(ag value).2.1.2.1==0))=true:=by
   have:((ag value).2.1.1==0)=false:=by simpa using h0
   rw[this];rfl
  rw[e,cond_true,if_pos h0];rfl
def rq(kr:Bk X)(s name:List UInt8)(r0:Int)(tags:List (List UInt8×List UInt8))(time:Int)(K5:Bool)(p:Nat):Option X:=
 if ¬(eS 1 name 1 200).1=0 then lD kr s 15 0 else if K5=false then lD kr s 11 s.length
 else nR kr s name (aX 124 (s.drop p)) p r0 tags time (decide (124∈s.drop p)) (fD 124 s p)
theorem z0j(hn:200000≤n)(name:List UInt8)(sF:name.length≤10000)(K5:Bool)(s:List UInt8)(hs:s.length≤10000)(jA:List UInt8)(jU:Int)(jV:List (Bool×Int×Int))(jW:Int)(jX:List (List UInt8×List UInt8))(jY iL hZ:Int)(p:Nat)(hp:p≤s.length)(d0:List UInt8)(d1:Int)(d2:List (Bool×Int×Int))(d3:Int)(d4:List (List UInt8×List UInt8))(d5:Int)(k0 k1 k2 k3:Nat) :
 F.zd.C5 n kr name K5 s jA jU jV jW jX jY iL hZ (p:Int) d0 d1 d2 d3 d4 d5 k0 k1 k2 k3=rq kr s name d3 d4 d5 K5 p:=by
 unfold F.zd.C5 rq;rw[qo n 1 name 1 200 (by omega) (by omega),za];by_cases h0:(eS 1 name 1 200).1=0
 ·have e:(!((eS 1 name 1 200).1==0&&(eS 1 name 1 200).2.1==0))=false:=by rw[h0,zny h0];rfl
  rw[e,cond_false,if_neg (fun h=>h h0)];cases K5
  ·rfl
  ·have lN:=k9 124 (s.drop p);have Dk:(s.drop p).length=s.length - p:=by simp
   have CA:=zic (c:=124) hp;rw[aiT,cond_false,if_neg (by simp),rN hp,za,rO n 124 (by omega),za];have w1:aiS .i64 ((p:Int)+((aX 124 (s.drop p)).length:Int))=((p+(aX 124 (s.drop p)).length:Nat):Int):=by rw[zh (by omega)];omega
   simp only[w1];by_cases hm:124∈s.drop p
   ·have hq:fD 124 s p=p+(aX 124 (s.drop p)).length+1:=by unfold fD;rw[if_pos hm]
    simp only[hm,decide_true,cond_true];rw[zi (by omega),←hq];exact zvy n kr hn name true _ (by omega) p s hs jA jU jV jW jX jY iL hZ _ CA d0 d1 d2 d3 d4 d5 k0 k1 k2 k3
   ·have hq:fD 124 s p=p+(aX 124 (s.drop p)).length:=by unfold fD;rw[if_neg hm];rfl
    simp only[hm,decide_false,cond_false];rw[←hq];exact zvy n kr hn name false _ (by omega) p s hs jA jU jV jW jX jY iL hZ _ CA d0 d1 d2 d3 d4 d5 k0 k1 k2 k3
 ·have e:(!((eS 1 name 1 200).1==0&&(eS 1 name 1 200).2.1==0))=true:=by
   have:((eS 1 name 1 200).1==0)=false:=by simpa using h0
   rw[this];rfl
  rw[e,cond_true,if_pos h0];rfl
end
def yl:Bk rb:=fun _ a b c d e f x y=>some ((a,b,c,d,e,f,()),(x,y,()),())
def gd(s:List UInt8):Option rb:=rq yl s (aX 58 s) 1000000 [] 0 (decide (58∈s)) (fD 58 s 0)
theorem zsx(n:Nat)(hn:200000≤n)(s:List UInt8)(hs:s.length≤10000):F.zd n s=gd s:=by
 unfold F.zd gd;have h0:sub s (0:Int) (s.length:Int)=some s:=rN (s:=s) (p:=0) (amt _);have lN:=k9 58 s;have CA:=zic (c:=58) (s:=s) (p:=0) (amt _);rw[h0,za,rO n 58 (by omega),za];have w1:aiS .i64 ((0:Int)+((aX 58 s).length:Int))=(((aX 58 s).length:Nat):Int):=by rw[zh (by omega)];omega
 simp only[w1];by_cases hm:58∈s
 ·have hq:fD 58 s 0=(aX 58 s).length+1:=by unfold fD;rw[alu,if_pos hm];omega
  simp only[hm,decide_true,cond_true];rw[zi (by omega),←hq];exact z0j n yl hn _ (by omega) true s hs _ _ _ _ _ _ _ _ _ CA _ _ _ _ _ _ _ _ _ _
 ·have hq:fD 58 s 0=(aX 58 s).length:=by unfold fD;rw[alu,if_neg hm];omega
  simp only[hm,decide_false,cond_false];rw[←hq];exact z0j n yl hn _ (by omega) false s hs _ _ _ _ _ _ _ _ _ CA _ _ _ _ _ _ _ _ _ _
end Go.AM
namespace Go.AM
def yo(r:Int):List UInt8:=if r=1000000 then[]else[124,64]++(ct r).1
def s_(m:bh):List UInt8:=m.1++[58]++pY m.2.2.1++[124]++fL m.2.1++yo m.2.2.2.1
def yp(m:bh):List UInt8×Int×Unit:=if f_ m 1=0 then(s_ m,0,())else([],f_ m 1,())
theorem zfi{m:bh}(h:f_ m 1=0):∃nm k d r,m=(nm,k,[d],r,[],0,())∧cX nm=true∧1≤k∧k≤4∧fy d=0∧1≤r∧r≤1000000∧(k=2→r=1000000)∧(k=2→d.1=false):=by
 obtain⟨nm,k,vs,r,ts,t,_⟩:=m;unfold f_ at h;rw[if_neg (by omega)]at h;by_cases h0:jm (nm,k,vs,r,ts,t,())=0
 ·rw[if_pos h0]at h;have hs:pI (nm,k,vs,r,ts,t,())=true:=by
   cases e:re (nm,k,vs,r,ts,t,()) 1
   ·rw[e]at h;cases h
   ·exact e
  obtain⟨c1,c2,c3,c4,c5,c6⟩:=vd h0;simp only at c1 c2 c3 c4 c5 c6;unfold pI at hs;simp only[aiX,al2,beq_iff_eq,beq_eq_false_iff_ne,amq]at hs;obtain⟨hb,ht,hk5,kg⟩:=hs;unfold mi at hb;simp only[aiX,decide_eq_true_eq]at hb;obtain⟨hv,hg⟩:=hb;have pb:ts=[]:=List.length_eq_zero_iff.1 hg;subst pb ht
  match vs,hv with
  | [d],_ =>
   unfold iD at c2;unfold mh at c3;unfold ic at c4;simp only[aiX,decide_eq_true_eq,amu,List.all_nil,Bool.and_true,beq_iff_eq,amq,al2,beq_eq_false_iff_ne]at c2 c3 c4;refine⟨nm,k,d,r,rfl,c1,c2.1,by omega,c3.2.2,c4.1,c4.2.1,fun hk => ?_,fun hk => ?_⟩
   ·rcases c4.2.2 with h|h
    ·exact absurd hk h
    ·exact h
   ·rcases kg with h|h
    ·exact absurd hk h
    ·exact h
 ·rw[if_neg h0]at h;exact absurd h h0
theorem zzu{k:Int}(h1:1≤k)(h2:k≤4):np k=0:=by unfold np;rw[if_pos (by omega)]
theorem zol(k:Int):(fL k).length≤2:=by
 unfold fL
 repeat (first|split|decide)
theorem zhu{r:Int}(h1:1≤r)(h2:r≤1000000):(ct r).2.1=0∧(ct r).1.length≤8:=by
 by_cases h:r=1000000
 ·subst h;exact⟨rfl,by decide⟩
 ·rw[rP ⟨h1,by omega⟩];obtain⟨p1,p2,p3,p4⟩:=nF (k:=r.toNat) (by omega);have:=Cb (fA r.toNat);refine⟨rfl,?_⟩;simp only[ai0];omega
theorem zvz(n:Nat)(hn:200000≤n)(m:bh)(hm:iF m):F.uf n m=some (yp m):=by
 unfold F.uf yp;have he:F.oD n (m.1,m.2.1,m.2.2.1,m.2.2.2.1,m.2.2.2.2.1,m.2.2.2.2.2.1,()) (1:Int)=some (f_ m 1):=zka n hn m hm 1;rw[he,za];by_cases h0:f_ m 1=0
 ·rw[if_pos h0];obtain⟨nm,k,d,r,rfl,ma,k1,k4,hd,r1,r2,gh,zL⟩:=zfi h0;have yq:de d:=hm.2.1.2 d (by simp);have xq:=hm.1;simp only at xq;have ht:=Fq yq hd;have hw:=zol k;obtain⟨t1,t2⟩:=zhu r1 r2;have hE:=zzu k1 k4;have hi:idx [d] (0:Int)=some d:=rfl;rw[h0];simp only[O.word,za,hE,hi,zfb n hn yq hd,zgq,t1];unfold s_ pY yo;simp only[beq_self_eq_true,aiT,cond_false];rw[zd (by rw[zr];omega),zd (by rw[zr];simp;omega),zd (by rw[zr];simp;omega),zd (by rw[zr];simp;omega)];by_cases hr:r=1000000
  ·subst hr;simp
  ·rw[beq_eq_false_iff_ne.2 hr,cond_false,if_neg hr,zd (by rw[zr];simp;omega),zd (by rw[zr];simp;omega),zd (by rw[zr];simp;omega)];simp
 ·rw[beq_eq_false_iff_ne.2 h0,if_neg h0];rfl
end Go.AM
namespace Go.AM
end Go.AM
namespace Go.AM
section
variable {X:Type} (n:Nat) (kr:Bk X)
end
end Go.AM
namespace Go.AM
theorem zsy{w:List UInt8}(h:¬kindOf w=0):w=fL (kindOf w)∧1≤kindOf w∧kindOf w≤4∧(124:UInt8)∉w:=by
 unfold kindOf at h ⊢;by_cases h1:w=[99]
 ·subst h1;decide
 rw[if_neg h1]at h ⊢;by_cases h2:w=[103]
 ·subst h2;decide
 rw[if_neg h2]at h ⊢;by_cases h3:w=[109,115]
 ·subst h3;decide
 rw[if_neg h3]at h ⊢;by_cases h4:w=[104]
 ·subst h4;decide
 rw[if_neg h4]at h;exact absurd rfl h
theorem zv0{k:Int}(h1:1≤k)(h4:k≤4):kindOf (fL k)=k:=by rcases(by omega:k=1∨k=2∨k=3∨k=4)with h|h|h|h<;>subst h<;>decide
section
variable {X:Type} (kr:Bk X)
theorem zom{name value word:List UInt8}{d:az}(hn:cX name=true)(hv:(124:UInt8)∉value)(hp:ag value=((d.1,d.2.1,d.2.2,()),(0,0,()),()))(hk:¬kindOf word=0)(hg:¬(kindOf word=2∧value.head? = some 45))
 {s rest:List UInt8} (hs:s=name++58::(value++124::(word++rest))) (hr:rest=[]∨rest.head? = some 124) :
 rq kr s (aX 58 s) 1000000 [] 0 (decide (58∈s)) (fD 58 s 0)=yk kr s name (kindOf word) [d] 1000000 [] 0 (decide (rest.head? = some 124)) (name.length+1+value.length+1+word.length+(if rest.head? = some 124 then 1 else 0)):=by
 have xF:=zve hn;obtain⟨hw1,hw2,hw3,K6⟩:=zsy hk;have DC:(58:UInt8)∈s:=by rw[hs];simp
 have UG:aX 58 s=name:=by rw[hs];exact uc xF _
 have Cj:s.drop 0=name++58::(value++124::(word++rest)):=hs;obtain⟨n1,n2⟩:=zgr Cj xF;rw[Nat.zero_add]at n1 n2;have hm1:(124:UInt8)∈s.drop (name.length+1):=by rw[n2];simp
 obtain⟨m1,m2⟩:=zgr n2 hv;have Gd:aX 124 (s.drop (name.length+1))=value:=by rw[n2];exact uc hv _
 have n_:(eS 1 name 1 200).1=0:=by unfold cX at hn;simpa using hn
 unfold rq;rw[UG,if_neg (fun h=>h n_),decide_eq_true DC,if_neg (by simp),n1,Gd,m1,decide_eq_true hm1];unfold nR;rw[hp,if_neg (by simp),if_neg (by simp)];unfold s9;rcases hr with hr|hr
 ·subst hr;rw[ak9]at m2;have hsw:aX 124 (s.drop (name.length+1+value.length+1))=word:=by rw[m2];exact qP K6
  have hm2:¬(124:UInt8)∈s.drop (name.length+1+value.length+1):=by rw[m2];exact K6
  rw[hsw,if_neg hk,if_neg hg,decide_eq_false hm2,zvd m2 K6];rfl
 ·obtain⟨t,ht⟩:∃t,rest=124::t:=by
   cases rest with
   |nil=>simp at hr
   |cons b t=>exact⟨t,by simp at hr;rw[hr]⟩
  subst ht;have hsw:aX 124 (s.drop (name.length+1+value.length+1))=word:=by rw[m2];exact uc K6 _
  have hm2:(124:UInt8)∈s.drop (name.length+1+value.length+1):=by rw[m2];simp
  rw[hsw,if_neg hk,if_neg hg,decide_eq_true hm2,(zgr m2 K6).1];rfl
theorem z3a{name value word t:List UInt8}{s:List UInt8}(hs:s=name++58::(value++124::(word++124::t))):s.drop (name.length+1+value.length+1+word.length+1)=t∧s.length=name.length+1+value.length+1+word.length+1+t.length:=by
 subst hs;refine⟨?_,by simp;omega⟩;rw[show name.length+1+value.length+1+word.length+1=name.length+(1+(value.length+(1+(word.length+1))))from by omega,amA,aml (by omega),ai8]
 rw[show name.length+(1+(value.length+(1+(word.length+1)))) - name.length=(value.length+(1+(word.length+1)))+1 from by omega,ama,amA,aml (by omega),ai8,
  show value.length+(1+(word.length+1)) - value.length=word.length+1+1 from by omega,ama,amA,aml (by omega),ai8,show word.length+1 - word.length=0+1 from by omega,ama,alu]
end
abbrev OkR(name:List UInt8)(k:Int)(d:az)(r:Int):rb:=((name,k,[d],r,[],0,()),(0,0,()),())
theorem zon{name value word:List UInt8}{d:az}(hn:cX name=true)(hv:(124:UInt8)∉value)(hp:ag value=((d.1,d.2.1,d.2.2,()),(0,0,()),()))(hk:¬kindOf word=0)(hg:¬(kindOf word=2∧value.head? = some 45)) :
 gd (name++58::(value++124::word))=some (OkR name (kindOf word) d 1000000):=by
 unfold gd;have:=zom yl hn hv hp hk hg (s:=name++58::(value++124::word)) (rest:=[]) (by rw[ak9]) (ai7 rfl);rw[this];rfl
theorem zq7{name value word:List UInt8}{d:az}(hn:cX name=true)(hv:(124:UInt8)∉value)(hp:ag value=((d.1,d.2.1,d.2.2,()),(0,0,()),()))(hk:¬kindOf word=0)(hg:¬(kindOf word=2∧value.head? = some 45))(t:List UInt8) :
 gd (name++58::(value++124::(word++124::t)))=some (if ¬t.head? = some 64 then kS 11 ((name.length+1+value.length+1+word.length+1:Nat):Int)
  else if ¬(du (aX 124 (t.drop 1))).2.1.1=0∨(kindOf word=2∧¬(du (aX 124 (t.drop 1))).1=1000000)then kS 18 ((name.length+1+value.length+1+word.length+1+1:Nat):Int)
  else if 124∈t.drop 1 then kS 11 ((name.length+1+value.length+1+word.length+1+1+(aX 124 (t.drop 1)).length:Nat):Int)
  else OkR name (kindOf word) d (du (aX 124 (t.drop 1))).1):=by
 unfold gd;generalize hs:name++58::(value++124::(word++124::t))=s;have:=zom yl hn hv hp hk hg (s:=s) (rest:=124::t) hs.symm (ak0 rfl);have hd:=(z3a hs.symm).1;rw[this];unfold yk;have h1:(if(124::t:List UInt8).head? = some 124 then 1 else 0)=1:=rfl;have h2:decide ((124::t:List UInt8).head? = some 124)=true:=rfl;have K7:s.drop (name.length+1+value.length+1+word.length+1+1)=t.drop 1:=by rw[←alO,hd]
 rw[h1,h2,if_neg (by simp),hd,K7]
 repeat' split
 all_goals first|rfl|(exfalso;simp_all)
theorem zoo (s:List UInt8):(∃c a:Int,gd s=some (kS c a)∧c≠0∧0≤a∧a≤s.length) ∨
 (∃name value word tail d r,s=name++58::(value++124::(word++tail))∧cX name=true∧(124:UInt8)∉value∧ag value=((d.1,d.2.1,d.2.2,()),(0,0,()),())∧¬kindOf word=0∧¬(kindOf word=2∧value.head? = some 45) ∧
  (tail=[]∧r=1000000∨∃rt,tail=124::64::rt∧(du rt).2.1.1=0∧(du rt).1=r∧(kindOf word=2→r=1000000)∧(124:UInt8)∉rt)∧gd s=some (OkR name (kindOf word) d r)):=by
 by_cases hn:cX (aX 58 s)=true
 ·by_cases DC:(58:UInt8)∈s
  ·have qd:=wK DC;have bo:=qp DC;generalize n_:aX 58 s=name at *;generalize ht:s.drop (name.length+1)=t at *;have yG:t.length+(name.length+1)=s.length:=by rw[←ht];simp;omega
   have Ac:¬ ¬(eS 1 name 1 200).1=0:=by unfold cX at hn;simpa using hn
   have hq:fD 58 s 0=name.length+1:=by unfold fD;rw[alu,if_pos DC,n_];omega
   have e1:gd s=nR yl s name (aX 124 t) (name.length+1) 1000000 [] 0 (decide (124∈t)) (fD 124 s (name.length+1)):=by unfold gd rq;rw[n_,if_neg Ac,decide_eq_true DC,if_neg (by simp),hq,ht]
   by_cases hv:(ag (aX 124 t)).2.1.1=0
   ·by_cases hb:(124:UInt8)∈t
    ·have Co:=wK hb;have UI:=qp hb;have ta:=zii 124 t;generalize Nj:aX 124 t=value at *;generalize kZ:t.drop (value.length+1)=t2 at *;have nY:s.drop (name.length+1+value.length+1)=t2:=by rw[al1 (name.length+1),←alO,ht,kZ]
     have aBq:t2.length+(value.length+1)=t.length:=by rw[←kZ];simp;omega
     have hq2:fD 124 s (name.length+1)=name.length+1+value.length+1:=by unfold fD;rw[ht,if_pos hb,Nj]
     have e2:gd s=s9 yl s name (aX 124 t2) value (name.length+1:Nat) (name.length+1+value.length+1:Nat) [((ag value).1.1,(ag value).1.2.1,(ag value).1.2.2.1)] 1000000 [] 0 (decide (124∈t2)) (fD 124 s (name.length+1+value.length+1)):=by rw[e1];unfold nR;rw[if_neg (fun h=>h hv),decide_eq_true hb,if_neg (by simp),hq2,nY]
     by_cases hk:kindOf (aX 124 t2)=0
     ·left;refine⟨16,((name.length+1+value.length+1:Nat):Int),?_,by decide,by omega,by omega⟩;rw[e2];unfold s9;rw[if_pos hk];rfl
     by_cases hg:kindOf (aX 124 t2)=2∧value.head? = some 45
     ·left;refine⟨26,((name.length+1:Nat):Int),?_,by decide,by omega,by omega⟩;rw[e2];unfold s9;rw[if_neg hk,if_pos hg];rfl
     have xB:=KP hv;have hp:ag value=(((((ag value).1.1,(ag value).1.2.1,(ag value).1.2.2.1):az).1,(ag value).1.2.1,(ag value).1.2.2.1,()),(0,0,()),()):=by generalize ag value=z at hv xB;obtain⟨⟨a,b,c,_⟩,⟨x,y,_⟩,_⟩:=z;simp only at hv xB;subst hv xB;rfl
     by_cases ly:(124:UInt8)∈t2
     ·have UJ:=wK ly;generalize azn:aX 124 t2=word at *;generalize ht3:t2.drop (word.length+1)=t3 at *;have aot:word.length+1+t3.length=t2.length:=by have:=congrArg amm UJ;simp at this;omega
      have hs:s=name++58::(value++124::(word++124::t3)):=by rw[←UJ,←Co,←qd]
      have L:=zq7 hn ta hp hk hg t3;rw[←hs]at L;by_cases c1:t3.head? = some 64
      ·rw[if_neg (fun h=>h c1)]at L;obtain⟨t4,ht4⟩:∃t4,t3=64::t4:=by
        cases t3 with
        |nil=>simp at c1
        |cons b t=>exact⟨t,by simp at c1;rw[c1]⟩
       subst ht4;simp only[ama,alu,ai0]at L aot;by_cases c2:¬(du (aX 124 t4)).2.1.1=0∨(kindOf word=2∧¬(du (aX 124 t4)).1=1000000)
       ·rw[if_pos c2]at L;exact ai7 ⟨18,_,L,by decide,by omega,by omega⟩
       rw[if_neg c2]at L;by_cases c3:(124:UInt8)∈t4
       ·rw[if_pos c3]at L;have:=qp c3;exact ai7 ⟨11,_,L,by decide,by omega,by omega⟩
       rw[if_neg c3,qP c3]at L;rw[qP c3]at c2;refine ak0 ⟨name,value,word,124::64::t4,_,_,hs,hn,ta,hp,hk,hg,ak0 ⟨t4,rfl,?_,rfl,fun h2 => ?_,c3⟩,L⟩
       ·exact amz fun h=>c2 (ai7 h)
       ·exact amz fun h=>c2 (ak0 ⟨h2,h⟩)
      ·rw[if_pos c1]at L;exact ai7 ⟨11,_,L,by decide,by omega,by omega⟩
     ·have hw:aX 124 t2=t2:=qP ly;rw[hw]at hk hg;have hs:s=name++58::(value++124::(t2++[])):=by rw[ak9,←Co,←qd]
      have L:=zon hn ta hp hk hg;have jc:=hs;rw[ak9]at jc;rw[←jc]at L;exact ak0 ⟨name,value,t2,[],_,_,hs,hn,ta,hp,hk,hg,ai7 ⟨rfl,rfl⟩,L⟩
    ·left;refine⟨11,(s.length:Int),?_,by decide,by omega,by omega⟩;rw[e1];unfold nR;rw[if_neg (fun h=>h hv),decide_eq_false hb,if_pos rfl];rfl
   ·left;refine⟨17,((name.length+1:Nat):Int),?_,by decide,by omega,by omega⟩;rw[e1];unfold nR;rw[if_pos hv];rfl
  ·left;refine⟨11,(s.length:Int),?_,by decide,by omega,by omega⟩;unfold gd rq;have Ac:¬ ¬(eS 1 (aX 58 s) 1 200).1=0:=by unfold cX at hn;simpa using hn
   rw[if_neg Ac,decide_eq_false DC,if_pos rfl];rfl
 ·left;refine⟨15,0,?_,by decide,by omega,by omega⟩;unfold gd rq;rw[if_pos (fun h=>hn (by unfold cX;simp[h]))];rfl
end Go.AM
namespace Go.AM
abbrev lE(s:List UInt8):Cm:=parseNum s 1 1099511627776
abbrev OkG(name:List UInt8)(d:az)(t:Int):rb:=((name,2,[d],1000000,[],t,()),(0,0,()),())
def yr(name:List UInt8)(d:az)(u:List UInt8)(p:Nat):rb:=
 if ¬(lE (aX 32 u)).2.1.1=0 then kS 20 (p:Int)else if 32∈u then kS 11 ((p+(aX 32 u).length:Nat):Int)else OkG name d (lE (aX 32 u)).1
def wZ(name:List UInt8)(u:List UInt8)(p:Nat):rb:=
 if ¬(ag (aX 32 u)).2.1.1=0 then kS 17 (p:Int)else if ¬32∈u then kS 11 ((p+(aX 32 u).length:Nat):Int)
 else yr name ((ag (aX 32 u)).1.1,(ag (aX 32 u)).1.2.1,(ag (aX 32 u)).1.2.2.1) (u.drop ((aX 32 u).length+1)) (p+(aX 32 u).length+1)
def jO(s:List UInt8):rb:=
 if cX (aX 32 s)=false then kS 15 0 else if ¬32∈s then kS 11 ((aX 32 s).length:Int)else wZ (aX 32 s) (s.drop ((aX 32 s).length+1)) ((aX 32 s).length+1)
theorem zpz{s:List UInt8}{lo hi:Int}(h:(parseNum s lo hi).2.1.1=0):(parseNum s lo hi).2.1.2.1=0:=(zfc h).1
theorem zhv{c a:Int}(h:c=0→a=0):(!((c==0)&&(a==0))) = !(c==0):=by
 by_cases hc:c=0
 ·rw[hc,h hc];rfl
 ·rw[beq_eq_false_iff_ne.2 hc];rfl
section
variable {X:Type} (n:Nat) (rec:Int→Int→Bool→List UInt8→Int→List az→Int→List ah→Int→Int→Int→List UInt8→Int→List az→Int→List ah→Int→Int→Int→List UInt8→Nat→Nat→Nat→Nat→Option X)
 (k0 kr:List UInt8→Int→List az→Int→List ah→Int→Int→Int→List UInt8→Int→List az→Int→List ah→Int→Int→Int→List UInt8→Nat→Nat→Nat→Nat→Option X)
 (b0:List UInt8) (b1:Int) (b2:List az) (b3:Int) (b4:List ah) (b5 b6 b7:Int) (nm:List UInt8) (kd:Int) (vs:List az) (rt:Int) (ts:List ah) (tm c a:Int) (s:List UInt8) (i0 i1 i2 i3:Nat)
theorem z4s(p i:Int):F.zo.bn.step n rec k0 kr p i false b0 b1 b2 b3 b4 b5 b6 b7 nm kd vs rt ts tm c a s i0 i1 i2 i3=k0 b0 b1 b2 b3 b4 b5 b6 b7 nm kd vs rt ts tm c a s i0 i1 i2 i3:=rfl
theorem zzv(hn:200000≤n)(p:Nat)(hp:p≤s.length)(hs:s.length≤10000) :
 F.zo.bn.step n rec k0 kr (p:Int) 0 true b0 b1 b2 b3 b4 b5 b6 b7 nm kd vs rt ts tm c a s i0 i1 i2 i3 =
  (if cX (aX 32 (s.drop p))=false then kr b0 b1 b2 b3 b4 b5 b6 b7 (aX 32 (s.drop p)) kd vs rt ts tm 15 (p:Int) s i0 i1 i2 i3
  else if ¬32∈s.drop p then kr b0 b1 b2 b3 b4 b5 b6 b7 (aX 32 (s.drop p)) kd vs rt ts tm 11 ((p+(aX 32 (s.drop p)).length:Nat):Int) s i0 i1 i2 i3
  else rec ((p+(aX 32 (s.drop p)).length+1:Nat):Int) 1 true b0 b1 b2 b3 b4 b5 b6 b7 (aX 32 (s.drop p)) kd vs rt ts tm c a s i0 i1 i2 i3):=by
 unfold F.zo.bn.step;have hl:=k9 32 (s.drop p);simp only[ai6]at hl;rw[cond_true,rN hp,za,rO n 32 (by simp;omega),za];simp only[beq_self_eq_true,cond_true];rw[qo n 1 _ 1 200 (by omega) (by omega),za,MU];have e1:((eS 1 (aX 32 (s.drop p)) 1 200).1==0)=cX (aX 32 (s.drop p)):=rfl;have w1:aiS .i64 ((p:Int)+((aX 32 (s.drop p)).length:Int))=((p+(aX 32 (s.drop p)).length:Nat):Int):=by rw[zh (by omega)];omega
 have w2:aiS .i64 ((p:Int)+(aiS .i64 (((aX 32 (s.drop p)).length:Int)+(1:Int))))=((p+(aX 32 (s.drop p)).length+1:Nat):Int):=by rw[zh (x:=((aX 32 (s.drop p)).length:Int)+1) (by omega),zh (by omega)];omega
 have w3:aiS .i64 ((0:Int)+1)=1:=rfl;rw[e1,w1,w2,w3];cases cX (aX 32 (s.drop p))
 ·rfl
 ·have d2:decide ((0:Int)<2)=true:=rfl;rw[aiT,cond_false,if_neg (by simp),d2];by_cases hm:32∈s.drop p
  ·rw[decide_eq_true hm,if_neg (fun h=>h hm)];rfl
  ·rw[decide_eq_false hm,if_pos hm];rfl
theorem zzw(hn:200000≤n)(p:Nat)(hp:p≤s.length)(hs:s.length≤10000) :
 F.zo.bn.step n rec k0 kr (p:Int) 1 true b0 b1 b2 b3 b4 b5 b6 b7 nm kd vs rt ts tm c a s i0 i1 i2 i3 =
  (if ¬(ag (aX 32 (s.drop p))).2.1.1=0 then kr b0 b1 b2 b3 b4 b5 b6 b7 nm kd vs rt ts tm 17 (p:Int) s i0 i1 i2 i3
  else if ¬32∈s.drop p then kr b0 b1 b2 b3 b4 b5 b6 b7 nm kd [((ag (aX 32 (s.drop p))).1.1,(ag (aX 32 (s.drop p))).1.2.1,(ag (aX 32 (s.drop p))).1.2.2.1)] rt ts tm 11 ((p+(aX 32 (s.drop p)).length:Nat):Int) s i0 i1 1 i3
  else rec ((p+(aX 32 (s.drop p)).length+1:Nat):Int) 2 true b0 b1 b2 b3 b4 b5 b6 b7 nm kd [((ag (aX 32 (s.drop p))).1.1,(ag (aX 32 (s.drop p))).1.2.1,(ag (aX 32 (s.drop p))).1.2.2.1)] rt ts tm c a s i0 i1 1 i3):=by
 unfold F.zo.bn.step;have hl:=k9 32 (s.drop p);simp only[ai6]at hl;rw[cond_true,rN hp,za,rO n 32 (by simp;omega),za];have g1:((1:Int)==0)=false:=rfl;simp only[beq_self_eq_true,cond_true,g1,cond_false];have w1:aiS .i64 ((p:Int)+((aX 32 (s.drop p)).length:Int))=((p+(aX 32 (s.drop p)).length:Nat):Int):=by rw[zh (by omega)];omega
 have w2:aiS .i64 ((p:Int)+(aiS .i64 (((aX 32 (s.drop p)).length:Int)+(1:Int))))=((p+(aX 32 (s.drop p)).length+1:Nat):Int):=by rw[zh (x:=((aX 32 (s.drop p)).length:Int)+1) (by omega),zh (by omega)];omega
 have w3:aiS .i64 ((1:Int)+1)=2:=rfl;rw[zee n hn _ (by omega),za,zhv (fun h=>KP h),w1,w2,w3];by_cases h0:(ag (aX 32 (s.drop p))).2.1.1=0
 ·have e0:((ag (aX 32 (s.drop p))).2.1.1==0)=true:=by simp[h0]
  have d2:decide ((1:Int)<2)=true:=rfl;rw[e0,aiT,cond_false,if_neg (fun h=>h h0),d2];by_cases hm:32∈s.drop p
  ·rw[decide_eq_true hm,if_neg (fun h=>h hm)];rfl
  ·rw[decide_eq_false hm,if_pos hm];rfl
 ·have e0:((ag (aX 32 (s.drop p))).2.1.1==0)=false:=by simpa using h0
  rw[e0,if_pos h0];rfl
theorem zzx(hn:200000≤n)(p:Nat)(hp:p≤s.length)(hs:s.length≤10000) :
 F.zo.bn.step n rec k0 kr (p:Int) 2 true b0 b1 b2 b3 b4 b5 b6 b7 nm kd vs rt ts tm c a s i0 i1 i2 i3 =
  (if ¬(lE (aX 32 (s.drop p))).2.1.1=0 then kr b0 b1 b2 b3 b4 b5 b6 b7 nm kd vs rt ts tm 20 (p:Int) s i0 i1 i2 i3
  else if 32∈s.drop p then kr b0 b1 b2 b3 b4 b5 b6 b7 nm kd vs rt ts (lE (aX 32 (s.drop p))).1 11 ((p+(aX 32 (s.drop p)).length:Nat):Int) s i0 i1 i2 i3
  else rec ((p+(aX 32 (s.drop p)).length+1:Nat):Int) 3 false b0 b1 b2 b3 b4 b5 b6 b7 nm kd vs rt ts (lE (aX 32 (s.drop p))).1 c a s i0 i1 i2 i3):=by
 unfold F.zo.bn.step;have hl:=k9 32 (s.drop p);simp only[ai6]at hl;rw[cond_true,rN hp,za,rO n 32 (by simp;omega),za];have g1:((2:Int)==0)=false:=rfl;have g2:((2:Int)==1)=false:=rfl;simp only[g1,g2,cond_false];have w1:aiS .i64 ((p:Int)+((aX 32 (s.drop p)).length:Int))=((p+(aX 32 (s.drop p)).length:Nat):Int):=by rw[zh (by omega)];omega
 have w2:aiS .i64 ((p:Int)+(aiS .i64 (((aX 32 (s.drop p)).length:Int)+(1:Int))))=((p+(aX 32 (s.drop p)).length+1:Nat):Int):=by rw[zh (x:=((aX 32 (s.drop p)).length:Int)+1) (by omega),zh (by omega)];omega
 have w3:aiS .i64 ((2:Int)+1)=3:=rfl;rw[zq4 n _ (by omega) (by omega),za,zhv (fun h=>zpz h),w1,w2,w3];by_cases h0:(lE (aX 32 (s.drop p))).2.1.1=0
 ·have e0:((lE (aX 32 (s.drop p))).2.1.1==0)=true:=by simp[h0]
  have d2:decide ((2:Int)<2)=false:=rfl;rw[e0,aiT,cond_false,if_neg (fun h=>h h0),d2];by_cases hm:32∈s.drop p
  ·rw[decide_eq_true hm,if_pos hm];rfl
  ·rw[decide_eq_false hm,if_neg hm];rfl
 ·have e0:((lE (aX 32 (s.drop p))).2.1.1==0)=false:=by simpa using h0
  rw[e0,if_pos h0];rfl
end
theorem zsz(n:Nat)(hn:200000≤n)(s:List UInt8)(hs:s.length≤10000):F.zo n s=some (jO s):=by
 unfold F.zo;generalize qG:(fun(aow:List UInt8) (aox:Int) (aoy:List az) (aoz:Int) (aoA:List ah) (aoB aoC aoD:Int) (K9:List UInt8) (K_:Int) (K':List az) (La:Int) (Lb:List ah) (Lc yu yw:Int) (aoE:List UInt8) (azv azw azx azy:Nat) =>
  bif !((yu==(0:Int))&&(yw==(0:Int)))then
   some (((([],(0:Int),[],(0:Int),[],(0:Int),()),(yu,yw,()),()):rb))
  else
   some (((K9,K_,K',La,Lb,Lc,()),(yu,yw,()),())))=k0
 have mB:∀(b0:List UInt8)(b1:Int)(b2:List az)(b3:Int)(b4:List ah)(b5 b6 b7:Int)(nm:List UInt8)(kd:Int)(vs:List az)(rt:Int)(ts:List ah)(tm c a:Int)(s:List UInt8)(i0 i1 i2 i3:Nat),¬c=0→k0 b0 b1 b2 b3 b4 b5 b6 b7 nm kd vs rt ts tm c a s i0 i1 i2 i3=some (kS c a):=by intro b0 b1 b2 b3 b4 b5 b6 b7 nm kd vs rt ts tm c a s i0 i1 i2 i3 hc;rw[←qG];simp only;rw[beq_eq_false_iff_ne.2 hc];rfl
 have cb:∀(b0:List UInt8)(b1:Int)(b2:List az)(b3:Int)(b4:List ah)(b5 b6 b7:Int)(nm:List UInt8)(kd:Int)(vs:List az)(rt:Int)(ts:List ah)(tm:Int)(s:List UInt8)(i0 i1 i2 i3:Nat),k0 b0 b1 b2 b3 b4 b5 b6 b7 nm kd vs rt ts tm 0 0 s i0 i1 i2 i3=some ((nm,kd,vs,rt,ts,tm,()),(0,0,()),()):=by intro b0 b1 b2 b3 b4 b5 b6 b7 nm kd vs rt ts tm s i0 i1 i2 i3;rw[←qG];rfl
 obtain⟨q,hq⟩:∃q,n=q+1+1+1+1:=⟨n - 4,by omega⟩;have st:∀m p i b b0 b1 b2 b3 b4 b5 b6 b7 nm kd vs rt ts tm c a s i0 i1 i2 i3,F.zo.bn n k0 k0 (m+1) p i b b0 b1 b2 b3 b4 b5 b6 b7 nm kd vs rt ts tm c a s i0 i1 i2 i3=F.zo.bn.step n (F.zo.bn n k0 k0 m) k0 k0 p i b b0 b1 b2 b3 b4 b5 b6 b7 nm kd vs rt ts tm c a s i0 i1 i2 i3:=fun _ _ _ _ _ _ _ _ _ _ _ _ _ _ _ _ _ _ _ _ _ _ _ _ _=>rfl;have key:F.zo.bn n k0 k0 (q+1+1+1+1) 0 0 true [] 0 [] 0 [] 0 0 0 [] 2 [] 1000000 [] 0 0 0 s 0 0 0 0=some (jO s):=by
  have hl:=k9 32 s;have r0:=zzv n (F.zo.bn n k0 k0 (q+1+1+1)) k0 k0 [] 0 [] 0 [] 0 0 0 [] 2 [] 1000000 [] 0 0 0 s 0 0 0 0 hn 0 (by omega) hs;rw[st];refine r0.trans ?_;rw[alu,Nat.zero_add];unfold jO;by_cases h1:cX (aX 32 s)=false
  ·rw[if_pos h1,if_pos h1];exact mB _ _ _ _ _ _ _ _ _ _ _ _ _ _ _ _ _ _ _ _ _ (by decide)
  rw[if_neg h1,if_neg h1];by_cases h2:¬32∈s
  ·rw[if_pos h2,if_pos h2];exact mB _ _ _ _ _ _ _ _ _ _ _ _ _ _ _ _ _ _ _ _ _ (by decide)
  rw[if_neg h2,if_neg h2];have bo:=qp (alJ.1 h2);generalize hA:(aX 32 s).length=A at *;have ni:=k9 32 (s.drop (A+1));simp only[ai6]at ni;rw[st,zzw n _ k0 k0 _ _ _ _ _ _ _ _ _ _ _ _ _ _ _ _ s _ _ _ _ hn (A+1) (by omega) hs];unfold wZ;by_cases h3:¬(ag (aX 32 (s.drop (A+1)))).2.1.1=0
  ·rw[if_pos h3,if_pos h3];exact mB _ _ _ _ _ _ _ _ _ _ _ _ _ _ _ _ _ _ _ _ _ (by decide)
  rw[if_neg h3,if_neg h3];by_cases h4:¬32∈s.drop (A+1)
  ·rw[if_pos h4,if_pos h4];exact mB _ _ _ _ _ _ _ _ _ _ _ _ _ _ _ _ _ _ _ _ _ (by decide)
  rw[if_neg h4,if_neg h4];have UI:=qp (alJ.1 h4);simp only[ai6]at UI;have nY:(s.drop (A+1)).drop ((aX 32 (s.drop (A+1))).length+1)=s.drop (A+1+(aX 32 (s.drop (A+1))).length+1):=by rw[alO];rfl
  rw[nY];generalize hB:A+1+(aX 32 (s.drop (A+1))).length=B at *;rw[st,zzx n _ k0 k0 _ _ _ _ _ _ _ _ _ _ _ _ _ _ _ _ s _ _ _ _ hn (B+1) (by omega) hs];unfold yr;by_cases h5:¬(lE (aX 32 (s.drop (B+1)))).2.1.1=0
  ·rw[if_pos h5,if_pos h5];exact mB _ _ _ _ _ _ _ _ _ _ _ _ _ _ _ _ _ _ _ _ _ (by decide)
  rw[if_neg h5,if_neg h5];by_cases h6:32∈s.drop (B+1)
  ·rw[if_pos h6,if_pos h6];exact mB _ _ _ _ _ _ _ _ _ _ _ _ _ _ _ _ _ _ _ _ _ (by decide)
  rw[if_neg h6,if_neg h6,st,z4s];exact cb _ _ _ _ _ _ _ _ _ _ _ _ _ _ _ _ _ _ _
 rw[←hq]at key;exact key
end Go.AM
namespace Go.AM
def pM(m:bh):List UInt8:=m.1++[32]++pY m.2.2.1++[32]++amo m.2.2.2.2.2.1.toNat
def Bl(m:bh):List UInt8×Int×Unit:=if f_ m 3=0 then(pM m,0,())else([],f_ m 3,())
theorem zeg{m:bh}(h:f_ m 3=0):∃nm d t,m=(nm,2,[d],1000000,[],t,())∧cX nm=true∧fy d=0∧1≤t∧t≤1099511627776:=by
 obtain⟨nm,k,vs,r,ts,t,_⟩:=m;unfold f_ at h;rw[if_neg (by omega)]at h;by_cases h0:jm (nm,k,vs,r,ts,t,())=0
 ·rw[if_pos h0]at h;have hs:pJ (nm,k,vs,r,ts,t,())=true:=by
   cases e:re (nm,k,vs,r,ts,t,()) 3
   ·rw[e]at h;cases h
   ·exact e
  obtain⟨c1,c2,c3,c4,c5,c6⟩:=vd h0;simp only at c1 c2 c3 c4 c5 c6;unfold pJ at hs;simp only[aiX,al2,beq_iff_eq,beq_eq_false_iff_ne]at hs;obtain⟨hb,ht,hk⟩:=hs;subst hk;unfold mi at hb;simp only[aiX,decide_eq_true_eq]at hb;obtain⟨hv,hg⟩:=hb;have pb:ts=[]:=List.length_eq_zero_iff.1 hg;subst pb
  match vs,hv with
  | [d],_ =>
   unfold mh at c3;unfold ic at c4;unfold iE at c6;simp only[aiX,decide_eq_true_eq,amu,List.all_nil,Bool.and_true,beq_iff_eq,amq,al2,beq_eq_false_iff_ne]at c3 c4 c6;have hr:r=1000000:=by
    rcases c4.2.2 with h|h
    ·exact absurd rfl h
    ·exact h
   subst hr;exact⟨nm,d,t,rfl,c1,c3.2.2,by omega,c6.2⟩
 ·rw[if_neg h0]at h;exact absurd h h0
theorem zq8{t:Int}(h1:1≤t)(h2:t≤1099511627776):(amo t.toNat).length≤13:=znn (by omega) (by omega)
theorem zzy{t:Int}(h1:1≤t)(h2:t≤1099511627776):lE (amo t.toNat)=gy t 0 0:=by show parseNum _ _ _=_;rw[zn7 t.toNat (by omega),if_neg (by omega),show((t.toNat:Nat):Int)=t from by omega]
theorem zzz(n:Nat)(hn:200000≤n)(m:bh)(hm:iF m):F.qP n m=some (Bl m):=by
 unfold F.qP Bl;have he:F.oD n (m.1,m.2.1,m.2.2.1,m.2.2.2.1,m.2.2.2.2.1,m.2.2.2.2.2.1,()) (3:Int)=some (f_ m 3):=zka n hn m hm 3;rw[he,za];by_cases h0:f_ m 3=0
 ·rw[if_pos h0];obtain⟨nm,d,t,rfl,ma,hd,t1,t2⟩:=zeg h0;have yq:de d:=hm.2.1.2 d (by simp);have xq:=hm.1;simp only at xq;have ht:=Fq yq hd;have hi:idx [d] (0:Int)=some d:=rfl;have hnt:rl t=(amo t.toNat,0,()):=by unfold rl;rw[if_neg (by omega)]
  have hl:=zq8 t1 t2;rw[h0];simp only[za,hi,zfb n hn yq hd,zn6 n t (by omega),hnt];unfold pM pY;simp only[beq_self_eq_true,aiT,cond_false];rw[zd (by rw[zr];omega),zd (by rw[zr];simp;omega),zd (by rw[zr];simp;omega),zd (by rw[zr];simp;omega)]
 ·rw[beq_eq_false_iff_ne.2 h0,if_neg h0];rfl
theorem zz0{a b:List UInt8}(ha:(32:UInt8)∉a)(hb:(32:UInt8)∉b)(u:List UInt8):jO (a++32::(b++32::u)) =
 if cX a=false then kS 15 0 else if ¬(ag b).2.1.1=0 then kS 17 ((a.length+1:Nat):Int)else yr a ((ag b).1.1,(ag b).1.2.1,(ag b).1.2.2.1) u (a.length+1+b.length+1):=by
 unfold jO;have h1:aX 32 (a++32::(b++32::u))=a:=uc ha _;have h2:(32:UInt8)∈a++32::(b++32::u):=by simp
 have h3:(a++32::(b++32::u)).drop (a.length+1)=b++32::u:=by rw[←alO];simp
 rw[h1,h3,if_neg (show ¬ ¬(32:UInt8)∈a++32::(b++32::u)from fun h=>h h2)];unfold wZ;have g1:aX 32 (b++32::u)=b:=uc hb _;have g2:(32:UInt8)∈b++32::u:=by simp
 have g3:(b++32::u).drop (b.length+1)=u:=by rw[←alO];simp
 rw[g1,g3,if_neg (show ¬ ¬(32:UInt8)∈b++32::u from fun h=>h g2)]
theorem zs0{s:List UInt8}(h:cX s=true):(32:UInt8)∉s:=by rw[KQ]at h;simp only[aiX,ai4]at h;intro hm;have:=h.1 32 hm;revert this;decide
theorem zop(neg:Bool)(c:Nat)(e:Int):(32:UInt8)∉fV neg c e:=by
 intro h;rcases wI neg c e _ h with h|h|h
 ·exact absurd h.1 (by decide)
 ·exact absurd h (by decide)
 ·exact absurd h (by decide)
theorem zp0{l:List UInt8}(h:cz l):(32:UInt8)∉l:=fun hm=>absurd (ai4.1 h _ hm) (by decide)
theorem zz1(s:List UInt8):(∃c a:Int,jO s=kS c a∧c≠0∧0≤a∧a≤s.length) ∨
 (∃name value time d,s=name++32::(value++32::time)∧cX name=true∧(32:UInt8)∉name∧(32:UInt8)∉value∧(32:UInt8)∉time∧ag value=((d.1,d.2.1,d.2.2,()),(0,0,()),())∧(lE time).2.1.1=0∧jO s=OkG name d (lE time).1):=by
 unfold jO;have hl:=k9 32 s;by_cases h1:cX (aX 32 s)=false
 ·rw[if_pos h1];exact ai7 ⟨15,0,rfl,by decide,by omega,by omega⟩
 rw[if_neg h1];by_cases h2:¬32∈s
 ·rw[if_pos h2];exact ai7 ⟨11,_,rfl,by decide,by omega,by omega⟩
 rw[if_neg h2];have nB:=alJ.1 h2;have qd:=wK nB;have xI:=zii 32 s;have hlen:=congrArg amm qd;simp only[ai3,ai0]at hlen;generalize aX 32 s=name at *;generalize s.drop (name.length+1)=t at *;unfold wZ;have ni:=k9 32 t;by_cases h3:¬(ag (aX 32 t)).2.1.1=0
 ·rw[if_pos h3];exact ai7 ⟨17,_,rfl,by decide,by omega,by omega⟩
 rw[if_neg h3];by_cases h4:¬32∈t
 ·rw[if_pos h4];exact ai7 ⟨11,_,rfl,by decide,by omega,by omega⟩
 rw[if_neg h4];have h4':=alJ.1 h4;have Co:=wK h4';have aoG:=zii 32 t;have AA:=congrArg amm Co;simp only[ai3,ai0]at AA;generalize aX 32 t=value at *;generalize t.drop (value.length+1)=u at *;unfold yr;have hl3:=k9 32 u;by_cases h5:¬(lE (aX 32 u)).2.1.1=0
 ·rw[if_pos h5];exact ai7 ⟨20,_,rfl,by decide,by omega,by omega⟩
 rw[if_neg h5];by_cases h6:32∈u
 ·rw[if_pos h6];exact ai7 ⟨11,_,rfl,by decide,by omega,by omega⟩
 rw[if_neg h6];rw[qP h6]at h5 ⊢;have Nk:=alJ.1 h3;have xB:=KP Nk;refine ak0 ⟨name,value,u,((ag value).1.1,(ag value).1.2.1,(ag value).1.2.2.1),by rw[←Co,←qd],by simpa using h1,xI,aoG,h6,?_,alJ.1 h5,rfl⟩;generalize ag value=z at Nk xB;obtain⟨⟨a,b,c,_⟩,⟨x,y,_⟩,_⟩:=z;simp only at Nk xB;subst Nk xB;rfl
theorem zs1{m:bh}(hm:iF m)(h:f_ m 3=0):jO (pM m)=(m,(0,0,()),()):=by
 obtain⟨nm,d,t,rfl,ma,hd,t1,t2⟩:=zeg h;have yq:de d:=hm.2.1.2 d (by simp);obtain⟨neg,c,e,rfl,hc,he⟩:=qO yq;have jK:fS neg c e=0:=hd;have hp:=ze9 neg c hc e jK;have CC:pY [(neg,(c:Int),e)]=fV neg c e:=rfl;have e1:pM (nm,2,[(neg,(c:Int),e)],1000000,[],t,())=nm++32::(fV neg c e++32::amo t.toNat):=by unfold pM;rw[CC];simp
 have xI:=zp0 (jy t.toNat);rw[e1,zz0 (zs0 ma) (zop neg c e),if_neg (by simp[ma]),hp,if_neg (by simp)];unfold yr;rw[qP xI,zzy t1 t2,if_neg (show ¬ ¬(gy t 0 0).2.1.1=0 from fun h=>h rfl),if_neg xI];rfl
theorem zz2{m:bh}(hm:iF m)(h:f_ m 3=0)(hl:m.1.length≤300):(pM m).length≤400:=by obtain⟨nm,d,t,rfl,ma,hd,t1,t2⟩:=zeg h;have yq:de d:=hm.2.1.2 d (by simp);have h1:=Fq yq hd;have h2:=zq8 t1 t2;have h5:pY [d]=fV d.1 d.2.1.toNat d.2.2:=rfl;simp only at hl;unfold pM;simp only[h5];simp;omega
end Go.AM
namespace Go.AM
def Nl(s:List UInt8):rb:=(gd s).getD (kS 11 0)
theorem zoq(s:List UInt8):gd s=some (Nl s):=by unfold Nl;rcases zoo s with⟨c,a,h,_⟩ |⟨_,_,_,_,_,_,_,_,_,_,_,_,_,h⟩<;>rw[h]<;>rfl
def kU(f:Int):Bool:=decide (1≤f)&&decide (f≤3)
def e_(s:List UInt8)(f:Int):rb:=
 if kU f=false then kS 29 0 else if 8192<s.length then kS 12 0 else if f=1 then Nl s else if f=2 then mU s else jO s
theorem mf{f:Int}(h:kU f=true):f=1∨f=2∨f=3:=by unfold kU at h;simp only[aiX,decide_eq_true_eq]at h;omega
theorem zor(n:Nat)(hn:200000≤n)(s:List UInt8)(hs:s.length≤1000000000)(f:Int):F.vh n s f=some (e_ s f):=by
 unfold F.vh e_;have hd:decide ((s.length:Int)>8192)=decide (8192<s.length):=decide_eq_decide.2 (by omega);rw[hd];cases hf:kU f
 ·have h1:f≠1:=fun e=>by rw[e]at hf;cases hf
  have h2:f≠2:=fun e=>by rw[e]at hf;cases hf
  have h3:f≠3:=fun e=>by rw[e]at hf;cases hf
  rw[beq_eq_false_iff_ne.2 h1,beq_eq_false_iff_ne.2 h2,beq_eq_false_iff_ne.2 h3,if_pos rfl];rfl
 ·rw[if_neg (by simp)];by_cases hl:8192<s.length
  ·rw[decide_eq_true hl,if_pos hl];rcases mf hf with rfl|rfl|rfl<;>rfl
  ·rw[decide_eq_false hl,if_neg hl];rcases mf hf with rfl|rfl|rfl
   ·rw[beq_self_eq_true,cond_true,cond_false,zsx n hn s (by omega),zoq,if_pos rfl];rfl
   ·rw[show((2:Int)==1)=false from rfl,cond_false,beq_self_eq_true,cond_true,cond_false,zzi n hn s (by omega),if_neg (by decide),if_pos rfl];rfl
   ·rw[show((3:Int)==1)=false from rfl,show((3:Int)==2)=false from rfl,cond_false,cond_false,beq_self_eq_true,cond_true,cond_false,zsz n hn s (by omega),if_neg (by decide),if_neg (by decide)];rfl
theorem zgw(s:List UInt8)(f:Int):((e_ s f).2.1=(0,0,())∧(e_ s f).1.2.2.1.length≤64∧(e_ s f).1.2.2.2.2.1.length≤32)∨(∃c a,c≠0∧0≤a∧a≤(s.length:Int)∧e_ s f=kS c a):=by
 unfold e_;split
 ·exact ak0 ⟨29,0,by decide,by omega,by omega,rfl⟩
 ·split
  ·exact ak0 ⟨12,0,by decide,by omega,by omega,rfl⟩
  ·split
   ·rcases zoo s with⟨c,a,h,h1,h2,h3⟩ |⟨_,_,_,_,_,_,_,_,_,_,_,_,_,h⟩
    ·rw[zoq]at h;exact ak0 ⟨c,a,h1,h2,h3,amI h⟩
    ·rw[zoq]at h;rw[amI h];exact ai7 ⟨rfl,(show(1:Nat)≤64 by omega),(show(0:Nat)≤32 by omega)⟩
   ·split
    ·rcases zoe s with⟨h,hI⟩ |⟨e,a,h1,h2,h3,h⟩
     ·exact ai7 ⟨h,hI.vs.2.2,hI.tg.2.1⟩
     ·exact ak0 ⟨e,a,h1,h2,h3,h⟩
    ·rcases zz1 s with⟨c,a,h,h1,h2,h3⟩ |⟨_,_,_,_,_,_,_,_,_,_,_,h⟩
     ·exact ak0 ⟨c,a,h1,h2,h3,h⟩
     ·rw[h];exact ai7 ⟨rfl,(show(1:Nat)≤64 by omega),(show(0:Nat)≤32 by omega)⟩
end Go.AM
namespace Go.AM
abbrev Ld:=List au×(Int×Int×Unit)×Unit
def sq(f:Int):List (List UInt8)→List au→Int→Except (Int×Int) (List au)
 |[],out,_ => .ok out
 |[t],out,at_=>if t=[]then .ok out else if out.length=1000 then .error (12,at_)else .error (30,at_)
 | p :: q::r,out,at_=>if out.length=1000 then .error (12,at_)else if(e_ p f).2.1.1≠0 then .error ((e_ p f).2.1.1,at_+(e_ p f).2.1.2.1)
     else sq f (q::r) (out++[Dt (e_ p f).1]) (at_+p.length+1)
def UK:Except (Int×Int) (List au)→Ld
 |.ok l=>(l,(0,0,()),())
 |.error e=>([],(e.1,e.2,()),())
def uC(b:List UInt8)(f:Int):Ld:=if kU f=false then([],(29,0,()),())else UK (sq f (bj 10 b) [] 0)
theorem zv1(s:List UInt8)(f:Int):(((e_ s f).2.1.1==0)&&((e_ s f).2.1.2.1==0))=decide ((e_ s f).2.1.1=0):=by
 rcases zgw s f with⟨h,_⟩ |⟨c,a,h1,_,_,h⟩
 ·rw[h];rfl
 ·rw[h];have e:(kS c a).2.1.1=c:=rfl;rw[e,decide_eq_false h1,beq_eq_false_iff_ne.2 h1];rfl
theorem zz3(s:List UInt8)(f:Int):0≤(e_ s f).2.1.2.1∧(e_ s f).2.1.2.1≤s.length:=by
 rcases zgw s f with⟨h,_⟩ |⟨c,a,h1,h2,h3,h⟩
 ·rw[h];exact⟨by simp,by simp⟩
 ·rw[h];exact⟨h2,h3⟩
theorem zs2(n:Nat){a:List UInt8}(ha:a.length≤1000000000):F.n5 n (a++[10]) [10]=some (a,true,()):=by
 unfold F.n5 F.sD F.qe;have hw:aiS .i64 (((a++[(10:UInt8)]).length:Int) - (([(10:UInt8)]:List UInt8).length:Int))=(a.length:Int):=by rw[zh (by simp;omega)];simp
 rw[zd (by simp;omega),hw,zv _ a.length _ (by simp) (by omega),amB,amj,za,za,beq_self_eq_true,aiT,cond_false,
  show(0:Int)=((0:Nat):Int)from rfl,zv _ 0 a.length (by omega) (by simp),List.take_left]
 rfl
theorem zp1(n:Nat){a:List UInt8}(ha:a.length≤1000000000)(c_:a≠[])(h:(10:UInt8)∉a):F.n5 n a [10]=some (a,false,()):=by
 unfold F.n5 F.sD F.qe;have hp:=List.length_pos_iff.2 c_;have hw:aiS .i64 ((a.length:Int) - (([(10:UInt8)]:List UInt8).length:Int))=((a.length - 1:Nat):Int):=by rw[zh (by simp;omega)];simp;omega
 rw[zd (by simp;omega),hw,zv _ (a.length - 1) _ (by omega) (by omega),amB,za];have hd:(a.drop (a.length - 1)==[10])=false:=by rw[beq_eq_false_iff_ne];intro e;exact h (List.mem_of_mem_drop (by rw[e];simp))
 rw[hd];rfl
abbrev KD:=Int→List au→Int→Int→List au→Int→List UInt8→Nat→Nat→Option Ld
theorem zz4(n:Nat)(hn:200000≤n)(f:Int)(k0 kr:KD)(h0:∀out a r k,k0 f [] 0 0 out a r 0 k=some (out,(0,0,()),()))(hr:∀c a out a' r k,kr f [] c a out a' r 0 k=some ([],(c,a,()),())) :
 ∀(m:Nat)(b:List UInt8)(out:List au)(a:Int),b.length<m→0≤a→a+b.length≤100000000→out.length≤1000 →
 F.iI.cq n k0 kr m f [] 0 0 out a b 0 out.length=some (UK (sq f (bj 10 b) out a)):=by
 intro m;induction m with
 |zero=>intro b out a h;omega
 | succ m ih =>
  intro b out a hm ha hb ho;rw[F.iI.cq];unfold F.iI.cq.step;dsimp only;by_cases c_:b=[]
  ·subst c_;rw[ze (by simp),h0];rfl
  have hp:=List.length_pos_iff.2 c_;have hi:F.wu n b 10=some (Lib.indexByte b 10):=rfl;have hk:((out.length:Int)==1000)=decide (out.length=1000):=by
   by_cases h:out.length=1000
   ·rw[h];rfl
   ·rw[decide_eq_false h,beq_eq_false_iff_ne];omega
  have sY:aiS .i64 (a+0)=a:=by rw[Int.add_zero,zh (by omega)]
  rw[zd (by omega),hi,za,zq1,zjg];by_cases jL:(10:UInt8)∈b
  ·have bo:=qp jL;have hw1:aiS .i64 (((aX 10 b).length:Int)+1)=(((aX 10 b).length+1:Nat):Int):=zi (by omega);have qd:=wK jL;have Cp:b[(aX 10 b).length]? = some 10:=by have:=congrArg (fun l=>l[(aX 10 b).length]?) qd;simpa using this
   have BX:sub b 0 (((aX 10 b).length+1:Nat):Int)=some (aX 10 b++[10]):=by rw[show(0:Int)=((0:Nat):Int)from rfl,zv b 0 _ (by omega) (by omega),alu,List.take_add_one,znx,Cp];rfl
   have hrn:dw 10 b=b.drop ((aX 10 b).length+1):=by unfold dw;rw[if_pos jL]
   have oI:(dw 10 b).length+((aX 10 b).length+1)=b.length:=by rw[hrn,ai6];omega
   rw[if_pos jL,if_pos jL,zd (by omega),hw1,BX,za,zv b _ b.length (by omega) (by omega),amB,←hrn,za,zs2 n (by omega),za,hk];have aoI:=xR 10 (dw 10 b);obtain⟨q,r,hqr⟩:∃q r,bj 10 (dw 10 b)=q::r:=by
    cases hq:bj 10 (dw 10 b)with
    |nil=>exact absurd hq aoI
    |cons q r=>exact⟨q,r,rfl⟩
   rw[hqr,sq];have KN:aiS .i64 (a+(((aX 10 b)++[10]).length:Int))=a+(aX 10 b).length+1:=by rw[zh (by simp;omega)];simp;omega
   by_cases pN:out.length=1000
   ·rw[decide_eq_true pN,cond_true,if_pos pN];rw[Bool.false_and,ai2,cond_true,sY,hr];rfl
   ·rw[decide_eq_false pN,cond_false,if_neg pN];have hpa:=zz3 (aX 10 b) f;dsimp only;rw[aiT,cond_false,zor n hn _ (by omega),za,zv1];by_cases hc:(e_ (aX 10 b) f).2.1.1=0
    ·rw[decide_eq_true hc,aiT,cond_false,KX (by omega),amd,cond_true,KN,if_neg (fun h=>h hc)];have:=ih (dw 10 b) (out++[Dt (e_ (aX 10 b) f).1]) (a+(aX 10 b).length+1) (by omega) (by omega) (by omega) (by simp;omega);rw[hqr]at this;exact this
    ·rw[decide_eq_false hc,ai2,cond_true,if_pos hc,zh (x:=a+(e_ (aX 10 b) f).2.1.2.1) (by omega)];exact hr _ _ _ _ _ _
  ·rw[if_neg jL,if_neg jL,ze (by omega),zp1 n (by omega) c_ jL,za,hk,sq,if_neg c_];by_cases pN:out.length=1000
   ·rw[decide_eq_true pN,cond_true,if_pos pN];rw[Bool.false_and,ai2,cond_true,sY,hr];rfl
   ·rw[decide_eq_false pN,cond_false,if_neg pN];dsimp only;rw[ai2,cond_true,Bool.false_and,ai2,cond_true,sY,hr];rfl
theorem zs3(n:Nat)(hn:200000≤n)(b:List UInt8)(hb:b.length≤100000000)(xo:b.length<n)(f:Int):F.iI n b f=some (uC b f):=by
 unfold F.iI uC;cases hf:kU f
 ·have h1:f≠1:=fun e=>by rw[e]at hf;cases hf
  have h2:f≠2:=fun e=>by rw[e]at hf;cases hf
  have h3:f≠3:=fun e=>by rw[e]at hf;cases hf
  rw[beq_eq_false_iff_ne.2 h1,beq_eq_false_iff_ne.2 h2,beq_eq_false_iff_ne.2 h3,if_pos rfl];rfl
 ·rw[if_neg (by simp)];have L:=zz4 n hn f (fun yz Le rz aoK Lf aoL aoM abm Lg=>some ((Lf,((0:Int),(0:Int),()),()))) (fun KI Cg Ch Ci aoN aoO aoP azS azT=>some ((Cg,(Ch,Ci,()),()))) (fun _ _ _ _=>rfl) (fun _ _ _ _ _ _=>rfl) n b [] 0 (by omega) (by omega) (by omega) (by simp);rcases mf hf with rfl|rfl|rfl
  ·exact L
  ·exact L
  ·exact L
end Go.AM
namespace Go.AM
end Go.AM
namespace Go.AM
def fE(m:bh)(f:Int):List UInt8:=if f=1 then s_ m else if f=2 then pK m else pM m
def Bm(m:bh)(f:Int):List UInt8×Int×Unit:=
 if kU f=false then([],29,())
 else if(fW m).2.1≠0 then([],(fW m).2.1,())
 else if f_ (fW m).1 f≠0 then([],f_ (fW m).1 f,())
 else(fE (fW m).1 f,0,())
theorem zz5(n:Nat)(hn:200000≤n){m:bh}(hR:fT m)(hs:dt m.2.2.2.2.1){f:Int}(h0:f_ m f=0) :
 (f=1→F.uf n m=some (fE m f,0,()))∧(f=2→F.zk n m=some (fE m f,0,()))∧(f=3→F.qP n m=some (fE m f,0,())):=by
 refine⟨fun e => ?_,fun e => ?_,fun e => ?_⟩
 ·subst e;rw[zvz n hn m hR.ok];unfold yp;rw[if_pos h0];rfl
 ·subst e;rw[zso n hn hR hs];rfl
 ·subst e;rw[zzz n hn m hR.ok];unfold Bl;rw[if_pos h0];rfl
theorem zp2(n:Nat)(hn:200000≤n)(m:bh)(hm:iF m)(f:Int):F.tC n m f=some (Bm m f):=by
 unfold F.tC Bm;have hN:F.zl n (m.1,m.2.1,m.2.2.1,m.2.2.2.1,m.2.2.2.2.1,m.2.2.2.2.2.1,())=some (fW m):=zdp n hn m hm;rw[hN];cases hf:kU f
 ·have h1:f≠1:=fun e=>by rw[e]at hf;cases hf
  have h2:f≠2:=fun e=>by rw[e]at hf;cases hf
  have h3:f≠3:=fun e=>by rw[e]at hf;cases hf
  rw[beq_eq_false_iff_ne.2 h1,beq_eq_false_iff_ne.2 h2,beq_eq_false_iff_ne.2 h3,if_pos rfl];rfl
 ·rw[if_neg (by simp)];rcases zef hm with⟨hq,hR⟩ |⟨e,he,hq⟩
  ·have hs:dt (jo m).2.2.2.2.1:=xU _;rw[hq];generalize jo m=q at hR hs ⊢;have hE:F.oD n (q.1,q.2.1,q.2.2.1,q.2.2.2.1,q.2.2.2.2.1,q.2.2.2.2.2.1,()) f=some (f_ q f):=zka n hn q hR.ok f;dsimp only;simp only[za,beq_self_eq_true,aiT,cond_false,hE,ne_eq,not_true_eq_false,if_false];by_cases h0:f_ q f=0
   ·obtain⟨l1,l2,l3⟩:=zz5 n hn hR hs h0;rw[if_neg (by simp[h0]),h0];rcases mf hf with rfl|rfl|rfl
    ·have:=l1 rfl;rw[beq_self_eq_true,cond_true,beq_self_eq_true,aiT,cond_false];exact(congrArg (amn · _) this).trans rfl
    ·have:=l2 rfl;rw[show((2:Int)==1)=false from rfl,cond_false,beq_self_eq_true,cond_true,beq_self_eq_true,aiT,cond_false];exact(congrArg (amn · _) this).trans rfl
    ·have:=l3 rfl;rw[show((3:Int)==1)=false from rfl,show((3:Int)==2)=false from rfl,cond_false,cond_false,beq_self_eq_true,cond_true,beq_self_eq_true,aiT,cond_false];exact(congrArg (amn · _) this).trans rfl
   ·rw[if_pos h0,beq_eq_false_iff_ne.2 h0];rcases mf hf with rfl|rfl|rfl<;>rfl
  ·rw[hq];dsimp only;rw[if_pos he];simp only[za,beq_eq_false_iff_ne.2 he];rcases mf hf with rfl|rfl|rfl<;>rfl
end Go.AM
namespace Go.AM
theorem zp3{m:bh}(hR:fT m)(hs:dt m.2.2.2.2.1){f:Int}(hf:kU f=true)(h0:f_ m f=0):Bm m f=(fE m f,0,()):=by unfold Bm;rw[if_neg (by simp[hf]),zoc hR hs,if_neg (by simp),if_neg (by simp[h0])]
theorem zgx{m:bh}(hR:fT m)(hs:dt m.2.2.2.2.1){f:Int}(hf:kU f=true)(h0:f_ m f=0):(fE m f).length≤8192:=by
 have hi:=hR.inv hs;have ma:=(uf hi.nm).2;unfold fE;rcases mf hf with rfl|rfl|rfl
 ·obtain⟨nm,k,d,r,rfl,_,h1,h4,hd,ju,gh,_⟩:=zfi h0;rw[if_pos rfl];have hv:=Fq ((M7 hR).1 d (by simp)).1 hd;have hw:=zol k;have hr:=(zhu ju gh).2;unfold s_ yo pY;dsimp only at ma ⊢;split<;>simp only[ai3,ai0,alG]<;>omega
 ·rw[if_neg (by decide),if_pos rfl];exact zok hi
 ·rw[if_neg (by decide),if_neg (by decide)];have:=zz2 hR.ok h0 (by omega);omega
abbrev EC:=List (List UInt8)×Int×Int×Unit
def fF(l:List au)(f:Int):EC:=
 if kU f=false then([],0,29,())else if(cw l).2.2.1=0 then(if(sn (cw l).1 f).2.1=0 then((cw l).1.map fun m=>fE (eK m) f,0,0,())else([],(sn (cw l).1 f).1,(sn (cw l).1 f).2.1,()))else([],(cw l).2.1,(cw l).2.2.1,())
theorem zs4(n:Nat)(hn:200000≤n)(f:Int)(hf:kU f=true)(k0:List (List UInt8)→Nat→Option EC)(kr:List (List UInt8)→Int→Int→Nat→Option EC)(h0:∀a k,k0 a k=some (a,0,0,()))(l:List au)(hR:lK l)(he:∀m∈l,f_ (eK m) f=0) :
 ∀(r:List au)(i m:Nat)(out:List (List UInt8)),l.drop i=r→out.length=i→r.length<m→F.z8.ug n k0 kr m f out l (l.length:Int) (i:Int) out.length=some (out++r.map fun m=>fE (eK m) f,0,0,()):=by
 have hl:=hR.1;intro r;induction r with
 |nil =>intro i m out hi ho hm;have:=zm hi;obtain⟨m,rfl⟩:∃q,m=q+1:=⟨m - 1,by omega⟩;rw[F.z8.ug];unfold F.z8.ug.step;dsimp only;rw[ze (by omega),h0];simp
 |cons x r ih =>
  intro i m out hi ho hm;obtain⟨g1,g2,g3⟩:=zl hi;obtain⟨m,rfl⟩:∃q,m=q+1:=⟨m - 1,by omega⟩;have hx:=alN g2;obtain⟨x1,x2⟩:=hR.2 x hx;have hN:F.tC n (x.1,x.2.1,x.2.2.1,x.2.2.2.1,x.2.2.2.2.1,x.2.2.2.2.2,()) f=some (fE (eK x) f,0,()):=by rw[←zp3 x1 x2 hf (he x hx)];exact zp2 n hn (eK x) x1.ok f
  rw[F.z8.ug];unfold F.z8.ug.step;dsimp only;rw[zd (by omega),zp,g2,za,hN,za,beq_self_eq_true,aiT,cond_false,Dr (by omega),amd,cond_true,zi (by omega),ih (i+1) m _ g3 (by simp[ho]) (by simp at hm;omega)];simp
theorem Lh{k:Nat}(h:k≤1000){X:Type}(y:Option X):(bif decide True&&(decide ((0:Int)≤(k:Int))&&decide ((16:Int)*(k:Int)≤281474976710656)&&decide ((k:Int)≤281474976710656))&&true then y else none)=y:=by rw[decide_eq_true (by omega:(0:Int)≤(k:Int)),decide_eq_true (by omega:(16:Int)*(k:Int)≤281474976710656),decide_eq_true (by omega:(k:Int)≤281474976710656)];rfl
theorem zgy(n:Nat)(hn:200000≤n)(l:List au)(cb:iG l)(f:Int):F.z8 n l f=some (fF l f):=by
 unfold F.z8 fF;rw[zdr n hn l cb];cases hf:kU f
 ·have h1:f≠1:=fun e=>by rw[e]at hf;cases hf
  have h2:f≠2:=fun e=>by rw[e]at hf;cases hf
  have h3:f≠3:=fun e=>by rw[e]at hf;cases hf
  rw[beq_eq_false_iff_ne.2 h1,beq_eq_false_iff_ne.2 h2,beq_eq_false_iff_ne.2 h3,if_pos rfl];rfl
 ·rw[if_neg (by simp)];simp only[za];rcases rM cb with⟨h2,hR,-,-⟩ |⟨i,e,he,h⟩
  ·generalize hq:cw l=q at h2 hR;obtain⟨q,q2⟩:=q;dsimp only at h2 hR;subst h2;rw[z28 n hn q hR.ok];simp only[za,beq_self_eq_true,aiT,cond_false,if_true];by_cases h0:(sn q f).2.1=0
   ·obtain⟨-,hx⟩:=zlr hR h0;rw[if_pos h0,h0,beq_self_eq_true,aiT,cond_false,Lh hR.1];have L:=zs4 n hn f hf (fun a k=>some (a,0,0,())) (fun a b c d=>some (a,b,c,())) (fun _ _=>rfl) q hR hx q 0 n [] rfl rfl (by have:=hR.1;omega);rcases mf hf with rfl|rfl|rfl<;>exact L
   ·rw[if_neg h0,beq_eq_false_iff_ne.2 h0];rcases mf hf with rfl|rfl|rfl<;>rfl
  ·rw[h];dsimp only;rw[if_neg he,beq_eq_false_iff_ne.2 he];rcases mf hf with rfl|rfl|rfl<;>rfl
theorem zds{l:List au}(cb:iG l)(f:Int):((fF l f).2=(0,0,())∧kU f=true∧(cw l).2=(0,0,())∧lK (cw l).1∧(∀m∈(cw l).1,f_ (eK m) f=0)∧(fF l f).1=(cw l).1.map fun m=>fE (eK m) f)∨(∃i e:Int,e≠0∧fF l f=([],i,e,())):=by
 unfold fF;cases hf:kU f
 ·rw[if_pos rfl];exact ak0 ⟨0,29,by decide,rfl⟩
 ·rw[if_neg (by simp)];rcases rM cb with⟨h2,hR,-,-⟩ |⟨i,e,he,h⟩
  ·rw[if_pos (by rw[h2])];by_cases h0:(sn (cw l).1 f).2.1=0
   ·rw[if_pos h0];exact ai7 ⟨rfl,rfl,h2,hR,(zlr hR h0).2,rfl⟩
   ·rw[if_neg h0];exact ak0 ⟨_,_,h0,rfl⟩
  ·rw[h,if_neg he];exact ak0 ⟨i,e,he,rfl⟩
theorem zjm{l:List au}(cb:iG l)(f:Int):(fF l f).1.length≤1000∧∀s∈(fF l f).1,s.length≤8192:=by
 rcases zds cb f with⟨-,hf,-,hR,he,h⟩ |⟨i,e,-,h⟩
 ·rw[h];refine⟨by rw[als];exact hR.1,fun s hs => ?_⟩;obtain⟨m,hm,rfl⟩:=alS.1 hs;exact zgx (hR.2 m hm).1 (hR.2 m hm).2 hf (he m hm)
 ·rw[h];exact⟨by simp,fun s hs=>by cases hs⟩
theorem zos(b:Nat):∀l:List (List UInt8),(∀s∈l,s.length≤b)→(cj l).length≤l.length*(b+1)
 |[],_=>by simp[cj]
 |x::l,h=>by have h1:=h x (by simp);have h2:=zos b l fun s hs=>h s (by simp[hs]);have h3:(l.length+1)*(b+1)=l.length*(b+1)+(b+1):=Nat.succ_mul _ _;simp only[cj,ai3,ai0,alG];omega
theorem zjn{l:List au}(h:l.length≤40)(cb:iG l)(f:Int):(fF l f).1.length≤40:=by
 rcases zds cb f with⟨-,-,-,-,-,h1⟩ |⟨i,e,-,h1⟩
 ·rw[h1,als];rcases rM cb with⟨-,-,h3,-⟩ |⟨i,e,-,h3⟩
  ·rw[h3,als];exact h
  ·rw[h3];exact amt _
 ·rw[h1];exact amt _
end Go.AM
namespace Go.AM
def pO(s:List UInt8):Bool:=decide (s.length≤9000)
def rG(l:List (List UInt8)):Bool:=decide (l.length≤40)&&l.all pO
def yA(mtu:Int):Nat→List (List UInt8)→Option (Nat×Int)
 |_,[]=>none
 |k,s::l=>if 10∈s then some (k,14)else if(s.length:Int)+1>mtu then some (k,27)else yA mtu (k+1) l
def lL(mtu:Int):List UInt8→List (List UInt8)→List (List UInt8)
 |cur,[]=>if cur=[]then[]else[cur]
 |cur,s::l=>if(cur.length:Int)+s.length+1>mtu then cur::lL mtu (s++[10]) l else lL mtu (cur++s++[10]) l
theorem Nn(mtu:Int)(cur s:List UInt8)(l:List (List UInt8)):lL mtu cur (s::l)=if(cur.length:Int)+s.length+1>mtu then cur::lL mtu (s++[10]) l else lL mtu (cur++s++[10]) l:=rfl
def mY(l:List (List UInt8))(mtu:Int):List (List UInt8)×Int×Int×Unit:=
 if mtu<1∨65536<mtu then([],0,10,())else match yA mtu 0 l with
  |some (k,e)=>([],(k:Int),e,())
  |none=>(lL mtu [] l,0,0,())
theorem zq9(n:Nat)(mtu:Int):F.wH n mtu=some (decide (1≤mtu∧mtu≤65536)):=by
 unfold F.wH;by_cases h:1≤mtu
 ·rw[zd (by omega)];simp[h]
 ·rw[ze (by omega)];simp[h]
theorem zot(n:Nat)(s:List UInt8):F.qh n s [10]=some (decide (10∈s)):=by
 unfold F.qh F.uc O.mM;simp only[za];congr 1;have:=znf (l:=s) (c:=10);by_cases h:10∈s
 ·simp[h,this.2 h]
 ·simp only[h,decide_false,decide_eq_false_iff_not];intro h2;exact h (this.1 h2)
theorem zv2(n:Nat)(X:Type)(k0:List (List UInt8)→Int→Option X)(kr:List (List UInt8)→Int→Int→Nat→Option X)(l:List (List UInt8))(mtu:Int)(hl:rG l=true):∀(r:List (List UInt8))(k m:Nat),l.drop k=r→r.length<m →
 F.zj.L4 n k0 kr m l mtu l (l.length:Int) k=match yA mtu k r with
  |some (j,e)=>kr [] (j:Int) e 0
  |none=>k0 l mtu:=by
 simp only[rG,aiX,decide_eq_true_eq,ai4,pO]at hl;intro r;induction r with
 |nil =>
  intro k m hk hm;have:=zm hk;cases m with
  |zero=>simp at hm
  |succ m =>show F.zj.L4.step n _ k0 kr l mtu l _ k=_;unfold F.zj.L4.step;rw[ze (by omega)];rfl
 | cons x r ih =>
  intro k m hk hm;obtain⟨h1,h2,h3⟩:=zl hk;have hx:x.length≤9000:=hl.2 x (alN h2);cases m with
  |zero=>simp at hm
  | succ m =>
   show F.zj.L4.step n (F.zj.L4 n k0 kr m) k0 kr l mtu l _ k=_;unfold F.zj.L4.step;rw[zd (by omega),zp,h2,za,zot,za,zh (by omega)];unfold yA;by_cases Cp:10∈x
   ·simp[Cp]
   ·simp only[Cp,decide_false,cond_false,if_false];by_cases hf:(x.length:Int)+1>mtu
    ·rw[zd hf,if_pos hf]
    ·rw[ze hf,if_neg hf,zi (by omega),ih (k+1) m h3 (by simp at hm;omega)]
theorem zdt{l:List (List UInt8)}(h:∀s∈l,s.length≤9000):(cj l).length≤9001*l.length:=by
 induction l with
 |nil=>simp[cj]
 |cons x l ih =>have h1:=h x (by simp);have h2:=ih (fun s hs=>h s (by simp[hs]));simp only[cj,ai3,ai0,alG];omega
theorem zp4(n:Nat)(X:Type)(k0:List UInt8→Int→Int→List (List UInt8)→Int→List (List UInt8)→Nat→Nat→Option X)(l:List (List UInt8))(mtu:Int)(t:List UInt8)(q:Nat)(hl:l.length≤40)(hs:∀s∈l,s.length≤9000) :
 ∀(r:List (List UInt8))(k m a:Nat)(out:List (List UInt8)),l.drop k=r→k≤l.length→r.length<m→a≤(cj (l.take k)).length→out.length≤k →
 ∃(a':Nat)(pZ:List (List UInt8)),a'≤(cj l).length∧pZ.length≤l.length∧F.zj.br n k0 m (cj l++t) (a:Int) ((cj (l.take k)).length:Int) l (l.length:Int) (k:Int) l mtu out q out.length=k0 (cj l++t) (a':Int) ((cj l).length:Int) l mtu pZ q pZ.length ∧
  out++lL mtu ((cj (l.take k)).drop a) r=pZ++(if(cj l).drop a'=[]then[]else[(cj l).drop a']):=by
 intro r;induction r with
 | nil =>
  intro k m a out hk Cf hm ha ho;have ik:=zm hk;have e:l.take k=l:=List.take_of_length_le ik;cases m with
  |zero=>simp at hm
  |succ m =>
   refine⟨a,out,by rw[e]at ha;exact ha,by omega,?_,by rw[e];rfl⟩
   ·show F.zj.br.step n _ k0 _ _ _ _ _ _ _ _ _ _ _=_;unfold F.zj.br.step;rw[ze (by omega),e]
 | cons x r ih =>
  intro k m a out hk Cf hm ha ho;obtain⟨h1,h2,h3⟩:=zl hk;have hx:x.length≤9000:=hs x (alN h2);have EX:l.take (k+1)=l.take k++[x]:=by rw[List.take_add_one,h2];rfl
  have tL:cj (l.take (k+1))=cj (l.take k)++(x++[10]):=by rw[EX,W2];simp[cj]
  have hfl:(cj (l.take k)).length≤9001*k:=by have:=zdt (l:=l.take k) (fun s jc=>hs s (List.mem_of_mem_take jc));simp only[List.length_take]at this;omega
  have aoW:∃t',cj l=cj (l.take k)++t':=⟨cj (l.drop k),by rw[←W2,List.take_append_drop]⟩;obtain⟨t',jF⟩:=aoW;have hlen:((cj (l.take (k+1))).length:Int)=(cj (l.take k)).length+x.length+1:=by rw[tL];simp;omega
  generalize hp:cj (l.take k)=p at *;cases m with
  |zero=>simp at hm
  | succ m =>
   have hw:aiS .i64 ((aiS .i64 ((p.length:Int)+(x.length:Int)))+(1:Int))=((cj (l.take (k+1))).length:Int):=by rw[zh (x:=(p.length:Int)+(x.length:Int)) (by omega),zh (by omega),hlen]
   have step:F.zj.br n k0 (m+1) (cj l++t) (a:Int) (p.length:Int) l (l.length:Int) (k:Int) l mtu out q out.length =
    if(p.length:Int)+x.length+1 - a>mtu then F.zj.br n k0 m (cj l++t) (p.length:Int) ((cj (l.take (k+1))).length:Int) l (l.length:Int) ((k+1:Nat):Int) l mtu (out++[p.drop a]) q (out++[p.drop a]).length
    else F.zj.br n k0 m (cj l++t) (a:Int) ((cj (l.take (k+1))).length:Int) l (l.length:Int) ((k+1:Nat):Int) l mtu out q out.length:=by
    show F.zj.br.step n (F.zj.br n k0 m) k0 _ _ _ _ _ _ _ _ _ _ _=_;unfold F.zj.br.step;rw[zd (by omega),zp,h2,za,hw,hlen,zh (by omega),zi (by omega),vU];by_cases hc:(p.length:Int)+x.length+1 - a>mtu
    ·rw[if_pos hc,if_pos hc,zv _ _ _ ha (by rw[jF];simp)];have e2:((cj l++t).take p.length).drop a=p.drop a:=by rw[jF];simp
     rw[e2];have e3:(decide ((out.length+1)*24≤2 ^ 46)&&decide (0<24∧24≤2 ^ 20))=true:=by simp;omega
     have e4:Nat.beq out.length out.length=true:=amd _;simp only[za,e3,e4,cond_true,beq_self_eq_true]
    ·rw[if_neg hc,if_neg hc]
   rw[step];by_cases hc:(p.length:Int)+x.length+1 - a>mtu
   ·rw[if_pos hc];obtain⟨a',pZ,q1,q2,q3,q4⟩:=ih (k+1) m p.length (out++[p.drop a]) h3 (by omega) (by simp at hm;omega) (by rw[tL];simp) (by simp;omega);refine⟨a',pZ,q1,q2,q3,?_⟩;rw[←q4,tL];rw[Nn,if_pos (by rw[ai6];omega)];simp
   ·rw[if_neg hc];obtain⟨a',pZ,q1,q2,q3,q4⟩:=ih (k+1) m a out h3 (by omega) (by simp at hm;omega) (by rw[tL];simp;omega) (by omega);refine⟨a',pZ,q1,q2,q3,?_⟩;rw[←q4,tL];rw[Nn,if_neg (by rw[ai6];omega),List.drop_append_of_le_length ha];simp
theorem zv3{l:List (List UInt8)}(h:cj l=[]):l=[]:=by
 cases l with
 |nil=>rfl
 |cons x l=>simp[cj]at h
theorem Li{l:List (List UInt8)}(hl:l.length≤40)(hs:∀s∈l,s.length≤9000):(Lib.join l [10]).length≤400000:=by
 by_cases h:l=[]
 ·subst h;simp[Lib.join]
 ·have h1:=congrArg amm (zng l h);have h2:=zdt hs;simp at h1;omega
theorem zgz (n : Nat) (hn : 20000≤n) (l:List (List UInt8)) (mtu:Int) (hf:rG l=true):F.zj n l mtu=some (mY l mtu):=by
 have hf':=hf;simp only[rG,aiX,decide_eq_true_eq,ai4,pO]at hf';obtain⟨hl,hs⟩:=hf';unfold F.zj mY;rw[zq9,za];by_cases hm:1≤mtu∧mtu≤65536
 ·rw [if_neg (by omega)];simp only[hm,decide_true,aiT,cond_false,and_self];refine(zv2 n _ _ _ l mtu hf l 0 n rfl (by omega)).trans ?_;split
  ·rfl
  ·have hj := Li hl hs;have e1:O.join n l [10]=some (Lib.join l [10]):=by
    unfold O.join;have:(Nat.ble l.length eP&&Nat.ble (Lib.join l [10]).length eP)=true:=by simp only[aiX,jZ,eP];omega
    rw[this];rfl
   rw[e1,za,zd (by rw[zr];omega)];obtain⟨t,ht,ht0⟩:∃t,Lib.join l [10]++[10]=cj l++t∧(l≠[]→t=[]):=by
    by_cases h:l=[]
    ·subst h;exact⟨[10],rfl,fun h=>absurd rfl h⟩
    ·exact⟨[],by rw[zng l h];simp,fun _=>rfl⟩
   rw [ht];obtain⟨a',pZ,q1,q2,q3,q4⟩:=zp4 n _ (fun aoY UL ED yz Le rz abm Lg =>
    bif decide (ED>UL)then
     bif ED==ED then
      (sub aoY UL ED).bind fun x9 =>
       bif decide ((rz.length+1)*24≤2 ^ 46)&&decide (0<24∧24≤2 ^ 20)then
        bif Nat.beq Lg rz.length then
         some ((rz++([x9]),(0:Int),(0:Int),()))
        else
         none
       else
        none
     else
      none
    else
     some ((rz,(0:Int),(0:Int),()))) l mtu t ((cj l++t).length) hl hs l 0 n 0 [] rfl (by omega) (by omega) (by simp) (by simp)
   refine q3.trans ?_;simp only[ai8,List.take_zero,cj,List.drop_nil]at q4;rw[q4];by_cases hc:(cj l).drop a'=[]
   ·have:(cj l).length≤a':=by simpa using hc
    rw[ze (by omega),if_pos hc];simp
   ·have:¬(cj l).length≤a':=by simpa using hc
    rw[zd (by omega),if_neg hc];have e3:(decide ((pZ.length+1)*24≤2 ^ 46)&&decide (0<24∧24≤2 ^ 20))=true:=by simp;omega
    have e4:Nat.beq pZ.length pZ.length=true:=amd _;rw[zv _ _ _ q1 (by simp),za,e3,e4];simp
 ·rw[if_pos (by omega)];simp[hm]
theorem zs5(n:Nat)(X:Type)(k0:Unit→Option X)(kr:Bool→Option X)(a b:List (List UInt8))(he:a.length=b.length)(hb:a.length<4611686018427387904):∀(r:List (List UInt8))(k m:Nat),a.drop k=r→r.length<m →
 F.kL.L4 n k0 kr m a b (k:Int)=if r=b.drop k then k0 ()else kr false:=by
 intro r;induction r with
 |nil =>
  intro k m hk hm;have:=zm hk;cases m with
  |zero=>simp at hm
  |succ m =>show F.kL.L4.step n _ k0 kr a b k=_;unfold F.kL.L4.step;rw[ze (by omega),if_pos (by symm;simp;omega)]
 | cons x r ih =>
  intro k m hk hm;obtain⟨h1,h2,h3⟩:=zl hk;have hkb:k<b.length:=by omega
  cases m with
  |zero=>simp at hm
  | succ m =>
   show F.kL.L4.step n (F.kL.L4 n k0 kr m) k0 kr a b k=_;unfold F.kL.L4.step;rw[zd (by omega),zp,h2,za,qh hkb,za,zi (by omega),ih (k+1) m h3 (by simp at hm;omega),ai9 hkb];by_cases hx:x=b[k]
   ·have e:(!(x==b[k]))=false:=by simp[hx]
    rw[e,cond_false,hx];by_cases hr:r=b.drop (k+1)
    ·rw[if_pos hr,if_pos (by rw[hr])]
    ·rw[if_neg hr,if_neg (fun h=>hr (amv h).2)]
   ·have e:(!(x==b[k]))=true:=by simp[hx]
    rw[e,cond_true,if_neg (fun h=>hx (amv h).1)]
theorem zz6(n:Nat)(a b:List (List UInt8))(hb:a.length<4611686018427387904)(hn:a.length<n):F.kL n a b=some (decide (a=b)):=by
 unfold F.kL;by_cases he:a.length=b.length
 ·have:(!((a.length:Int)==(b.length:Int)))=false:=by simp[he]
  rw[this,cond_false];refine(zs5 n _ _ _ a b he hb a 0 n rfl hn).trans ?_;by_cases h:a=b
  ·simp[h]
  ·simp[h]
 ·have:(!((a.length:Int)==(b.length:Int)))=true:=by simp;omega
  rw[this,cond_true];have:a≠b:=fun h=>he (by rw[h]);simp[this]
theorem zv4(n:Nat)(a:List (List UInt8))(h1:a.length≤1000000)(h2:a.flatten.length≤1000000):F.uX n a=some a.flatten:=by
 unfold F.uX O.u_;have:(Nat.ble a.length eP&&Nat.ble (Lib.lens a+([]:List UInt8).length*(a.length - 1)) eP&&([]:List UInt8).isEmpty)=true:=by simp only[aiX,jZ,eP,alG,Nat.zero_mul,Nat.add_zero,←zgi];exact⟨⟨by omega,by omega⟩,rfl⟩
 rw[this];rfl
theorem zv5(n:Nat)(hn:20000≤n):F.nq n=some true:=by
 unfold F.nq;rw[zgz n hn _ _ (by decide),zgz n hn _ _ (by decide)];have e1:mY [[97,98],[99],[100,101,102]] 5=([[97,98,10,99,10],[100,101,102,10]],0,0,()):=by decide
 have e2:mY [[97,98],[99],[100,101,102]] 3=([],2,27,()):=by decide
 simp only[za,e1,e2];rw[zz6 n _ _ (by simp) (by simp;omega),zv4 n _ (by simp) (by simp)];rfl
theorem zc6{mtu:Int}:∀(l:List (List UInt8))(cur:List UInt8),(lL mtu cur l).length≤l.length+1
 |[],cur=>by unfold lL;split<;>simp
 |s::l,cur=>by
  rw[Nn];split
  ·have:=zc6 (mtu:=mtu) l (s++[10]);simp;omega
  ·have:=zc6 (mtu:=mtu) l (cur++s++[10]);simp at this ⊢;omega
end Go.AM
namespace Go.AM
end Go.AM
namespace Go.AM
theorem zv6(n:Nat)(X:Type)(k0:List UInt8→Int→List az→Int→List ah→Int→Option X)(kr:Bool→List UInt8→Int→List az→Int→List ah→Int→Option X)(ts:List ah)(hs:ts.length≤1000)(b0:List UInt8)(b1:Int)(b2:List az)(b3:Int)(b5:Int):∀(r:List ah)(k m:Nat),ts.drop k=r→r.length<m →
 F.jG.L4 n k0 kr m (k:Int) b0 b1 b2 b3 ts b5=bif r.all (fun t=>decide (t.1.length≤150)&&decide (t.2.length≤150))then k0 b0 b1 b2 b3 ts b5 else kr false b0 b1 b2 b3 ts b5:=by
 intro r;induction r with
 |nil =>intro k m h1 hm;obtain⟨m,rfl⟩:∃q,m=q+1:=⟨m - 1,by omega⟩;rw[F.jG.L4];unfold F.jG.L4.step;dsimp only;rw[ze (by have:=zm h1;omega)];rfl
 | cons t r ih =>
  intro k m h1 hm;obtain⟨m,rfl⟩:∃q,m=q+1:=⟨m - 1,by simp at hm;omega⟩;obtain⟨l1,g1,t1⟩:=zl h1;rw[F.jG.L4];unfold F.jG.L4.step;dsimp only;rw[zd (by omega),zp,g1,za,za,zi (by omega),ih (k+1) m t1 (by simp at hm;omega),amu];by_cases e1:t.1.length≤150
  ·rw[ze (by omega),decide_eq_true e1];by_cases e2:t.2.length≤150
   ·rw[ze (by omega),decide_eq_true e2];rfl
   ·rw[zd (by omega),decide_eq_false e2];rfl
  ·rw[zd (by omega),decide_eq_false e1];rfl
def rA(m:bh):Bool:=decide (m.1.length≤300)&&(decide (m.2.2.1.length≤80)&&(decide (m.2.2.2.2.1.length≤40)&&m.2.2.2.2.1.all (fun t=>decide (t.1.length≤150)&&decide (t.2.length≤150))))
theorem z3b(n:Nat)(hn:200000≤n)(m:bh):F.jG n m=some (rA m):=by
 obtain⟨nm,k,vs,r,ts,t,_⟩:=m;unfold F.jG rA;dsimp only;by_cases h1:nm.length≤300
 ·rw[ze (by omega),decide_eq_true h1,amw];by_cases h2:vs.length≤80
  ·rw[ze (by omega),decide_eq_true h2,amw];by_cases h3:ts.length≤40
   ·rw[ze (by omega),decide_eq_true h3,amw];refine(zv6 n Bool _ _ ts (by omega) nm k vs r t ts 0 n rfl (by omega)).trans ?_;exact zib _ _ _ |>.trans (by cases ts.all (fun t=>decide (t.1.length≤150)&&decide (t.2.length≤150))<;>rfl)
   ·rw[zd (by omega),decide_eq_false h3];rfl
  ·rw[zd (by omega),decide_eq_false h2];rfl
 ·rw[zd (by omega),decide_eq_false h1];rfl
theorem z3c{m:bh}(hw:Dq m)(h:rA m=true):iF m:=by unfold rA at h;simp only[aiX,decide_eq_true_eq]at h;obtain⟨h1,h2,h3,h4⟩:=h;refine⟨by omega,⟨by omega,hw⟩,by omega,fun t ht => ?_⟩;have:=ai4.1 h4 t ht;simp only[aiX,decide_eq_true_eq]at this;exact⟨by omega,by omega⟩
def Bn(l:List au):Bool:=(l.take 13).all (fun m=>rA (eK m))&&decide (l.length≤12)
theorem zv7(n:Nat)(hn:200000≤n)(k0:List au→Option Bool)(kr:Bool→Option Bool)(h0:∀l,k0 l=some (decide ((l.length:Int)≤12)))(hr:∀b,kr b=some b)(l:List au):∀(r:List au)(i m:Nat),l.drop i=r→i≤13→14<m+i→F.nz.L2 n k0 kr m l (i:Int)=some ((r.take (13 - i)).all (fun m=>rA (eK m))&&decide (l.length≤12)):=by
 have hd:decide ((l.length:Int)≤12)=decide (l.length≤12):=decide_eq_decide.2 (by omega);intro r;induction r with
 |nil =>intro i m hi h41 hm;have:=zm hi;obtain⟨m,rfl⟩:∃q,m=q+1:=⟨m - 1,by omega⟩;rw[F.nz.L2];unfold F.nz.L2.step;dsimp only;rw[ze (by omega),h0,hd];simp
 | cons x r ih =>
  intro i m hi h41 hm;obtain⟨g1,g2,g3⟩:=zl hi;obtain⟨m,rfl⟩:∃q,m=q+1:=⟨m - 1,by omega⟩;rw[F.nz.L2];unfold F.nz.L2.step;dsimp only;rw[zd (by omega)];by_cases h:i<13
  ·have hN:F.jG n (x.1,x.2.1,x.2.2.1,x.2.2.2.1,x.2.2.2.2.1,x.2.2.2.2.2,())=some (rA (eK x)):=z3b n hn (eK x);rw[zd (by omega),zp,g2,za,hN,za,show 13 - i=(13 - (i+1))+1 by omega,List.take_succ_cons,amu];cases rA (eK x)
   ·rw[ai2,cond_true,hr];rfl
   ·rw[aiT,cond_false,zi (by omega),ih (i+1) m g3 (by omega) (by omega),amw]
  ·rw[ze (by omega),h0,hd,show 13 - i=0 by omega];simp
theorem z3d(n:Nat)(hn:200000≤n)(l:List au):F.nz n l=some (Bn l):=by unfold F.nz;exact zv7 n hn _ _ (fun _=>rfl) (fun _=>rfl) l l 0 n rfl (by omega) (by omega)
theorem z3e{l:List au}(hw:∀m∈l,Dq (eK m))(h:Bn l=true):iG l∧l.length≤12:=by unfold Bn at h;simp only[aiX,decide_eq_true_eq]at h;obtain⟨h1,h2⟩:=h;rw[List.take_of_length_le (by omega)]at h1;exact⟨fun m hm=>z3c (hw m hm) (ai4.1 h1 m hm),h2⟩
theorem zp5{l:List au}(h:l.length≤12)(cb:iG l)(f:Int):rG (fF l f).1=true:=by unfold rG;simp only[aiX,decide_eq_true_eq,ai4,pO];exact⟨zjn (by omega) cb f,fun s hs=>by have:=(zjm cb f).2 s hs;omega⟩
def wi:List (List UInt8)→Int→Int
 |[],v=>v
 |s::r,v=>wi r (if(s.length:Int)+1>v then(s.length:Int)+1 else v)
theorem zs6{X:Type}(n:Nat)(k0:Int→Option X)(l:List (List UInt8))(hl:l.length≤1000)(hs:∀s∈l,s.length≤9000):∀(r:List (List UInt8))(i m:Nat)(v:Int),l.drop i=r→r.length<m→i≤l.length→F.jy.L9 n k0 m v l (l.length:Int) (i:Int)=k0 (wi r v):=by
 intro r;induction r with
 |nil =>intro i m v h1 hm hi;obtain⟨m,rfl⟩:∃q,m=q+1:=⟨m - 1,by omega⟩;rw[F.jy.L9];unfold F.jy.L9.step;dsimp only;rw[ze (by have:=zm h1;omega)];rfl
 |cons s r ih =>intro i m v h1 hm hi;obtain⟨m,rfl⟩:∃q,m=q+1:=⟨m - 1,by simp at hm;omega⟩;obtain⟨l1,g1,t1⟩:=zl h1;have hx:=hs s (alN g1);rw[F.jy.L9];unfold F.jy.L9.step;dsimp only;rw[zd (by omega),zp,g1,za,zi (by omega),zi (by omega),ih (i+1) m _ t1 (by simp at hm;omega) (by omega)];rfl
end Go.AM
namespace Go.AM
theorem Lj{X:Type}(a:Option (List AV))(k:Option X):lZ a a k=k:=by unfold lZ;rw[if_pos rfl]
end Go.AM
namespace Go.AM
theorem bq{X:Type}{Q:X→Prop}{c:Bool}{a b:X}(h1:c=true→Q a)(h2:c=false→Q b):Q (bif c then a else b):=by
 cases c
 ·exact h2 rfl
 ·exact h1 rfl
theorem zz7(n:Nat){l:List UInt8}(h:l.length≤70368744177664):F.rJ n l=some l:=by
 unfold F.rJ;cases l with
 |nil=>exact if_pos rfl
 |cons x l =>simp only[ai0]at h;simp only[List.isEmpty_cons,cond_false,ai0,ai8];rw[decide_eq_true (by omega)];rfl
section
variable {X:Type} {Q:Option X→Prop} {n:Nat} {b:List UInt8}
def DI(ws:List (List UInt8))(t:Nat):Prop:=ws.length≤65536∧t=ws.length∧∀s∈ws,s.length≤200
theorem DI.nil:DI [] 0:=⟨by simp,rfl,fun s h=>by simp at h⟩
abbrev WK(X:Type):=List UInt8→Int→Int→Int→List (List UInt8×Int)→List (List UInt8)→Nat→Option X
theorem zfj{k0:Int→Option X}(hk:∀v,Q (k0 v)):∀(m k:Nat)(c v:Int),k≤256→257≤m+k→Q (F.i_.L5 n k0 m c v (k:Int))
 |0,k,c,v,h1,h2=>by omega
 | m + 1,k,c,v,h1,h2=>by
  show Q (F.i_.L5.step n (F.i_.L5 n k0 m) k0 c v (k:Int));unfold F.i_.L5.step;refine bq (fun h => ?_) fun _=>hk _;rw[decide_eq_true_iff]at h;have e:aiS .u8 (k:Int)=((ai1 k).toNat:Int):=by
   have:aiS .u8 (k:Int)=(k:Int):=by show(k:Int) % 256=k;omega
   rw[this];simp;omega
  rw[e,z0i,za,zi (by omega)];exact bq (fun _=>zfj hk m (k+1) c _ (by omega) (by omega)) fun _=>zfj hk m (k+1) c _ (by omega) (by omega)
abbrev TK(X:Type):=Int→Int→Int→List (List UInt8×Int)→List (List UInt8)→List (List UInt8×List UInt8)→Nat→Nat→Option X
abbrev GK(X:Type):=Int→Int→Int→List (List UInt8×Int)→List (List UInt8)→List UInt8→Int→List (Bool×Int×Int)→Int→List (List UInt8×List UInt8)→Int→Nat→Nat→Nat→Option X
end
end Go.AM
namespace Go.AM
section
variable {X:Type} {Q:Option X→Prop} {n:Nat} {b:List UInt8}
end
end Go.AM
namespace Go.AM
abbrev FE(α:Type):=Except (Int×Int) α
def FT{α:Type}(c d:Int)(r:FE α):FE α:=if c=0∧d=0 then r else .error (c,d)
def gE{α:Type}(r:FE α)(P:α→Prop)(c d:Int):Prop:=match r with
 |.ok v=>c=0∧d=0∧P v
 |.error e=>c=e.1∧d=e.2∧c≠0
def FS(c d:Int):Prop:=(c=0∧d=0)∨c≠0
theorem lB{α:Type}(r:FE α):FT 0 0 r=r:=if_pos ⟨rfl,rfl⟩
theorem qL{α:Type}{c d:Int}(h:c≠0)(r:FE α):FT c d r = .error (c,d):=if_neg fun e=>h e.1
theorem gE.fs{α:Type}{r:FE α}{P:α→Prop}{c d:Int}(h:gE r P c d):FS c d:=by
 cases r with
 |ok v=>exact .inl ⟨h.1,h.2.1⟩
 |error e=>exact .inr h.2.2
theorem gE.stay{α:Type}{r:FE α}{P:α→Prop}{c d:Int}(h:c≠0):gE (FT c d r) P c d:=by rw[qL h];exact⟨rfl,rfl,h⟩
theorem gE.imp{α:Type}{r:FE α}{P P':α→Prop}{c d:Int}(h:gE r P c d)(hp:∀v,r = .ok v→P v→P' v):gE r P' c d:=by
 cases r with
 |ok v=>exact⟨h.1,h.2.1,hp v rfl h.2.2⟩
 |error e=>exact h
theorem gE.next{α β:Type}{r:FE α}{P:α→Prop}{c d:Int}(h:gE r P c d){k:α→FE β}{r2:FE β}(hk:∀v,r = .ok v→P v→r2=k v):FT c d r2=r.bind k:=by
 cases r with
 |ok v =>obtain⟨h1,h2,h3⟩:=h;rw[h1,h2,lB,hk v rfl h3];rfl
 |error e =>obtain⟨h1,h2,h3⟩:=h;rw[qL h3,h1,h2];rfl
theorem FY{α β:Type}(c d:Int)(r:FE α)(k:α→FE β):FT c d (r.bind k)=(FT c d r).bind k:=by unfold FT;split<;>rfl
section
variable {X:Type} {Q:Option X→Prop} {n:Nat} {b:List UInt8}
theorem lb{k1 k2:Int→Int→Option X}{e a c d:Int}{g:Bool}(hg:g=true)(hs:FS c d)(h1:c=0∧d=0→Q (k1 e a))(h2:c≠0→Q (k2 c d)) :
 Q (bif (c==(0:Int))&&(d==(0:Int))then F.za.aa n k1 e a g c d else F.za.aa n k2 e a false c d):=by
 unfold F.za.aa;rcases hs with⟨rfl,rfl⟩ |hs
 ·rw[hg];exact h1 ⟨rfl,rfl⟩
 ·rw[show((c==(0:Int))&&(d==(0:Int)))=false from by simp[hs]];exact h2 hs
def kV(b:List UInt8)(k p:Nat):FE (List UInt8×Nat):=if b.length - p<k then .error (13,b.length)else .ok ((b.drop p).take k,p+k)
theorem zv8{kr:List UInt8→Int→Int→Int→Option X}{k p:Nat}{c d:Int}(hb:b.length≤1000000000)(qG:k≤1000000)(hp:p≤b.length)(hs:FS c d)
 (hk:∀(l:List UInt8)(p':Nat)(c' d':Int),p'≤b.length→l.length≤k→gE (FT c d (kV b k p)) (fun v=>l=v.1∧p'=v.2) c' d'→(c'≠0→l=[])→Q (kr l (p':Int) c' d')):Q (F.za.ca n kr (k:Int) b (p:Int) c d):=by
 unfold F.za.ca;rcases hs with⟨rfl,rfl⟩ |hs
 ·rw[show(!(((0:Int)==0)&&((0:Int)==0)))=false from rfl,cond_false,ze (by omega),zh (x:=(b.length:Int) - (p:Int)) (by omega)];have hr:FT 0 0 (kV b k p)=kV b k p:=lB _;by_cases h:b.length - p<k
  ·have e:kV b k p = .error (13,b.length):=if_pos h;rw[zd (by omega)];exact lb rfl (.inl ⟨rfl,rfl⟩) (fun _=>hk _ _ _ _ hp (by simp) (by rw[hr,e];exact⟨rfl,rfl,by decide⟩) fun _=>rfl) fun h=>absurd rfl h
  ·have e:kV b k p = .ok ((b.drop p).take k,p+k):=if_neg h;have e2:(b.take (p+k)).drop p=(b.drop p).take k:=by rw[List.drop_take,Nat.add_sub_cancel_left]
   rw[ze (by omega),zh (x:=(p:Int)+(k:Int)) (by omega),zh (by omega),show(p:Int)+(k:Int) - (k:Int)=(p:Int)from by omega,show(p:Int)+(k:Int)=((p+k:Nat):Int)from by omega,zv b p (p+k) (by omega) (by omega),za,zz7 n (by simp;omega),za,e2];exact hk _ _ _ _ (by omega) (by simp;omega) (by rw[hr,e];exact⟨rfl,rfl,rfl,rfl⟩) fun h=>absurd rfl h
 ·rw[show(!((c==(0:Int))&&(d==(0:Int))))=true from by simp[hs],cond_true];exact hk _ _ _ _ hp (by simp) (gE.stay hs) fun _=>rfl
def kW(b:List UInt8)(p:Nat):FE (Nat×Nat):=match b[p]? with
 |some x => .ok (x.toNat,p+1)
 |none => .error (13,b.length)
theorem zou{b:List UInt8}{p:Nat}{v:Nat×Nat}(h:kW b p = .ok v):v.1<256∧v.2=p+1∧p<b.length∧b.drop p=ai1 v.1::b.drop (p+1):=by
 unfold kW at h;cases hx:b[p]? with
 |none=>rw[hx]at h;cases h
 |some x =>rw[hx]at h;obtain rfl:=Except.ok.inj h;have hl:=(ak6.1 hx).1;refine⟨x.toNat_lt,rfl,hl,?_⟩;rw[ai9 hl];have:b[p]=x:=(ak6.1 hx).2;simp[this]
theorem zv9{kr:Int→Int→Int→Int→Option X}{p:Nat}{c d:Int}(hb:b.length≤1000000000)(hp:p≤b.length)(hs:FS c d)
 (hk:∀(x p':Nat)(c' d':Int),x<256→p'≤b.length→gE (FT c d (kW b p)) (fun v=>x=v.1∧p'=v.2) c' d'→Q (kr (x:Int) (p':Int) c' d')):Q (F.za.dn n kr b (p:Int) c d):=by
 unfold F.za.dn;refine zv8 (k:=1) hb (by omega) hp hs fun l p' c' d' h hl hR k7 => ?_
 have key:kV b 1 p=(kW b p).bind fun v => .ok ([ai1 v.1],v.2):=by
  unfold kV kW;cases hx:b[p]? with
  |none =>have:=List.getElem?_eq_none_iff.1 hx;rw[if_pos (by omega)];rfl
  |some x =>have hl:=(ak6.1 hx).1;rw[if_neg (by omega),ai9 hl,(ak6.1 hx).2];show amJ ([x],p+1)=amJ ([ai1 x.toNat],p+1);rw[amk]
 rw[key,FY]at hR;generalize hr:FT c d (kW b p)=r at hR hk;cases r with
 |error e =>obtain⟨h1,h2,h3⟩:=hR;obtain rfl:=k7 h3;rw[show((([]:List UInt8).length:Int)==1)=false from rfl,cond_false];exact hk 0 p' c' d' (by omega) h ⟨h1,h2,h3⟩
 | ok v =>
  obtain⟨rfl,rfl,h3,h4⟩:=hR;dsimp only at h3 h4;have hv:v.1<256:=by
   unfold FT at hr;split at hr
   ·exact(zou hr).1
   ·cases hr
  subst h3;have hi:idx [ai1 v.1] (0:Int)=some (ai1 v.1):=rfl;rw[show(([ai1 v.1].length:Int)==1)=true from rfl,cond_true,hi,za,show(ai1 v.1).toNat=v.1 from by simp;omega];exact hk v.1 p' 0 0 hv h ⟨rfl,rfl,rfl,h4⟩
end
def Bo(b:List UInt8):Nat→Nat→Nat→Nat→FE (Nat×Nat)
 |0,_,_,p => .error (10,p)
 |j+1,k,v,p=>(kW b p).bind fun x =>
  if k=9∧1<x.1 then .error (10,(p:Int))else if 128≤x.1 then Bo b j (k+1) (v+x.1 % 128*128 ^ k) x.2 else if x.1=0∧0<k then .error (21,(p:Int))else .ok (v+x.1*128 ^ k,x.2)
def rV(b:List UInt8)(p:Nat):FE (Nat×Nat):=Bo b 10 0 0 p
theorem z4f{x y:Nat}(hx:x<18446744073709551616)(hy:y<18446744073709551616):bw .or .u64 (x:Int) (y:Int)=((x|||y:Nat):Int):=by have hz:x|||y<18446744073709551616:=Nat.or_lt_two_pow (n:=64) hx hy;show aiS .u64 (((ak1 64 (x:Int)|||ak1 64 (y:Int)).toNat:Nat):Int)=_;rw[BitVec.toNat_or,alF,alF,show((x:Int) % ((2 ^ 64:Nat):Int)).toNat=x from by omega,show((y:Int) % ((2 ^ 64:Nat):Int)).toNat=y from by omega,zz (by omega)]
set_option maxRecDepth 100000 in
theorem Np(x:Nat)(hx:x<256):bw .and .u8 (x:Int) (127:Int)=((x % 128:Nat):Int):=by have h:(ak1 8 (x:Int)&&&ak1 8 127).toNat=x % 128:=(by decide:∀y:Fin 256,(ak1 8 (y.val:Int)&&&ak1 8 127).toNat=y.val % 128) ⟨x,hx⟩;show aiS .u8 ((ak1 8 (x:Int)&&&ak1 8 127).toNat:Int)=_;rw[h,yd];omega
theorem z3f{k:Nat}(h:k≤9):128 ^ k≤9223372036854775808:=by
 have:128 ^ k≤128 ^ 9:=amr (by decide) h;have e:128 ^ 9=9223372036854775808:=by decide
 omega
theorem zwa{v k x:Nat}(hk:k≤9)(hv:v<128 ^ k)(hx:x<256)(h9:k=9→x≤1):bw .or .u64 (v:Int) (gk .u64 (aiS .u64 (bw .and .u8 (x:Int) (127:Int))) (7*(k:Int)))=((v+x % 128*128 ^ k:Nat):Int)∧v+x % 128*128 ^ k<18446744073709551616:=by
 have hp:=z3f hk;have hm:x % 128<128:=Nat.mod_lt _ (by decide);have hb:v+x % 128*128 ^ k<18446744073709551616:=by
  by_cases e:k=9
  ·subst e;have:=h9 rfl;have:x % 128≤1:=by omega
   have e9:128 ^ 9=9223372036854775808:=by decide
   have:x % 128*128 ^ 9≤1*128 ^ 9:=ak5 _ this;omega
  ·have h8:128 ^ k≤128 ^ 8:=amr (by decide) (by omega);have e8:128 ^ 8=72057594037927936:=by decide
   have:x % 128*128 ^ k≤127*128 ^ k:=ak5 _ (by omega);omega
 refine⟨?_,hb⟩;have e2:(128:Nat) ^ k=2 ^ (7*k):=by rw[Nat.pow_mul]
 have es:gk .u64 ((x % 128:Nat):Int) (7*(k:Int))=((x % 128*128 ^ k:Nat):Int):=by
  unfold gk;have Lk:min ((7*(k:Int))).toNat (amD .u64)=7*k:=by have:amD .u64=64:=rfl;rw[this];omega
  rw[Lk,show(((x % 128:Nat):Int)*2 ^ (7*k))=((x % 128*128 ^ k:Nat):Int)from by rw[e2];push_cast;rfl,zz (by omega)]
 rw[Np x hx,zz (by omega),es,z4f (by omega) (by omega)];congr 1;have h:=ams (i:=7*k) (b:=v) (by rw[←e2];exact hv) (x % 128);rw[Nat.shiftLeft_eq,←e2]at h;rw[Nat.or_comm,←h,Nat.add_comm]
section
variable {X:Type} {Q:Option X→Prop} {n:Nat} {b:List UInt8}
theorem UM{k0:Int→Int→Int→Int→Int→Option X}{kr:Int→Int→Int→Int→Int→Int→Option X}(hb:b.length≤1000000000){r0:FE (Nat×Nat)}
 (h0:∀(x p:Nat)(k:Int),x<18446744073709551616→p≤b.length→r0 = .ok (x,p)→Q (k0 (x:Int) k (p:Int) 0 0))
 (hr:∀(k e:Int)(p:Nat)(c d:Int),p≤b.length→e≠0→((c=0∧d=0∧0<p∧r0 = .error (e,(p:Int) - 1))∨(c≠0∧r0 = .error (c,d)))→Q (kr 0 k e (p:Int) c d)) :
 ∀(j m k v p:Nat)(c d:Int),j+k=10→0<j→j<m→v<128 ^ k→p≤b.length→FS c d→r0=FT c d (Bo b j k v p)→Q (F.za.cm n k0 kr m (v:Int) (k:Int) b (p:Int) c d)
 |0,m,k,v,p,c,d,hj,h1,hm,hv,hp,hs,hR=>by omega
 |j+1,0,k,v,p,c,d,hj,h1,hm,hv,hp,hs,hR=>by omega
 | j + 1,m + 1,k,v,p,c,d,hj,h1,hm,hv,hp,hs,hR=>by
  show Q (F.za.cm.step n (F.za.cm n k0 kr m) k0 kr (v:Int) (k:Int) b (p:Int) c d);unfold F.za.cm.step;refine zv9 hb hp hs fun x p' c' d' hx h hB => ?_;have e1:aiS .i64 ((k:Int)+1)=((k+1:Nat):Int):=zi (by omega);have e2:aiS .i64 (((k+1:Nat):Int) - 1)=(k:Int):=by rw[zh (by omega)];omega
  have e3:aiS .i64 ((7:Int)*(k:Int))=7*(k:Int):=zh (by omega);rw[e1,e2,e3,show decide ((7:Int)*(k:Int)<0)=false from decide_eq_false (by omega)];rw[Bo,FY]at hR;generalize qb:FT c d (kW b p)=r at hB hR;cases r with
  |error e =>obtain⟨h2,h3,h4⟩:=hB;rw[show(!((c'==(0:Int))&&(d'==(0:Int))))=true from by simp[h4],cond_true];exact hr _ _ _ _ _ h (by decide) (.inr ⟨h4,by rw[hR,h2,h3];rfl⟩)
  | ok y =>
   obtain⟨rfl,rfl,rfl,rfl⟩:=hB;have tA:c=0∧d=0∧y.2=p+1:=by
    unfold FT at qb;split at qb
    ·exact⟨by omega,by omega,(zou qb).2.1⟩
    ·cases qb
   have hR:r0=if k=9∧1<y.1 then .error (10,(p:Int))else if 128≤y.1 then Bo b j (k+1) (v+y.1 % 128*128 ^ k) y.2 else if y.1=0∧0<k then .error (21,(p:Int))else .ok (v+y.1*128 ^ k,y.2):=hR
   rw[show(!(((0:Int)==0)&&((0:Int)==0)))=false from rfl,cond_false];have gV:(y.2:Int) - 1=(p:Int):=by omega
   have low:¬128≤y.1→¬(k=9∧1<y.1)→(k=9→y.1≤1)→Q (bif (y.1:Int)==0 then bif decide (((k+1:Nat):Int)>1)then kr 0 ((k+1:Nat):Int) 21 (y.2:Int) 0 0
    else k0 (bw .or .u64 (v:Int) (gk .u64 (aiS .u64 (bw .and .u8 (y.1:Int) (127:Int))) (7*(k:Int)))) ((k+1:Nat):Int) (y.2:Int) 0 0
    else k0 (bw .or .u64 (v:Int) (gk .u64 (aiS .u64 (bw .and .u8 (y.1:Int) (127:Int))) (7*(k:Int)))) ((k+1:Nat):Int) (y.2:Int) 0 0):=fun g1 g2 g3=>by
    rw[if_neg g2,if_neg g1]at hR;obtain⟨b1,b2⟩:=zwa (k:=k) (by omega) hv hx g3;rw[b1];rw[amE (by omega)]at b2 ⊢;by_cases hz:y.1=0
    ·rw[show((y.1:Int)==0)=true from by simp[hz],cond_true];by_cases hk:0<k
     ·rw[zd (by omega)];rw[if_pos ⟨hz,hk⟩]at hR;exact hr _ _ _ _ _ h (by decide) (.inl ⟨rfl,rfl,by omega,by rw[hR,gV]⟩)
     ·rw[ze (by omega)];rw[if_neg (by omega)]at hR;exact h0 _ _ _ b2 h hR
    ·rw[show((y.1:Int)==0)=false from by simp[hz],cond_false];rw[if_neg (by omega)]at hR;exact h0 _ _ _ b2 h hR
   by_cases Cp:k=9
   ·rw[show((((k+1:Nat):Int))==10)=true from by simp[Cp],cond_true];by_cases oJ:1<y.1
    ·rw[zd (by omega)];rw[if_pos ⟨Cp,oJ⟩]at hR;exact hr _ _ _ _ _ h (by decide) (.inl ⟨rfl,rfl,by omega,by rw[hR,gV]⟩)
    ·rw[ze (by omega),cond_false,ze (by omega)];exact low (by omega) (by omega) (by omega)
   ·rw[show((((k+1:Nat):Int))==10)=false from by simp;omega,cond_false,cond_false];by_cases hg:128≤y.1
    ·rw[zd (by omega)];rw[if_neg (by omega),if_pos hg]at hR;obtain⟨b1,b2⟩:=zwa (k:=k) (by omega) hv hx (by omega);rw[b1];refine UM hb h0 hr j m (k+1) _ y.2 0 0 (by omega) (by omega) (by omega) ?_ h (.inl ⟨rfl,rfl⟩) (by rw[lB];exact hR);have:y.1 % 128*128 ^ k≤127*128 ^ k:=ak5 _ (by omega);rw[alT];omega
    ·rw[ze (by omega)];exact low hg (by omega) (by omega)
theorem FZ{kr:Int→Int→Int→Int→Option X}{p:Nat}{c d:Int}(hn:2000≤n)(hb:b.length≤1000000000)(hp:p≤b.length)(hs:FS c d)
 (hk:∀(x p':Nat)(c' d':Int),x<18446744073709551616→p'≤b.length→gE (FT c d (rV b p)) (fun v=>x=v.1∧p'=v.2) c' d'→(c'≠0→x=0)→Q (kr (x:Int) (p':Int) c' d')):Q (F.za.cp n kr b (p:Int) c d):=by
 unfold F.za.cp;refine UM hb (r0:=FT c d (rV b p)) (fun x p' k hx h hR=>hk x p' 0 0 hx h (by rw[hR];exact⟨rfl,rfl,rfl,rfl⟩) fun h=>absurd rfl h) (fun k e p' c' d' h he hR => ?_) 10 n 0 0 p c d rfl (by omega) (by omega) (by decide) hp hs rfl;rw[show(!(e==(0:Int)))=true from by simpa using he,cond_true,Lj];rcases hR with⟨rfl,rfl,Hd,hR⟩ |⟨hc,hR⟩
 ·rw[zh (by omega)];exact lb rfl (.inl ⟨rfl,rfl⟩) (fun _=>hk 0 p' e _ (by omega) h (by rw[hR];exact⟨rfl,rfl,he⟩) fun _=>rfl) fun h=>absurd rfl h
 ·exact lb rfl (.inr hc) (fun h=>absurd h.1 hc) fun _=>hk 0 p' c' d' (by omega) h (by rw[hR];exact⟨rfl,rfl,hc⟩) fun _=>rfl
end
end Go.AM
namespace Go.AM
section
variable {X:Type} {Q:Option X→Prop} {n:Nat} {b:List UInt8}
def kX(b:List UInt8)(lo hi:Nat)(e:Int)(p:Nat):FE (Nat×Nat):=(rV b p).bind fun v=>if lo≤v.1∧v.1≤hi then .ok v else .error (e,(p:Int))
theorem Nq{kr:Int→Int→Int→Int→Option X}{p lo hi:Nat}{e c d:Int}(hn:2000≤n)(hb:b.length≤1000000000)(hp:p≤b.length)(hs:FS c d)(he:e≠0)(hl:hi≤4611686018427387904∧lo≤hi)
 (hk:∀(x:Int)(p':Nat)(c' d':Int),p'≤b.length→gE (FT c d (kX b lo hi e p)) (fun v=>x=(v.1:Int)∧p'=v.2∧lo≤v.1∧v.1≤hi) c' d'→Q (kr x (p':Int) c' d')):Q (F.za.gw n kr e b (p:Int) c d (lo:Int) (hi:Int)):=by
 unfold F.za.gw F.za.jj;refine FZ hn hb hp hs fun x p' c' d' hx h hR _ => ?_;rw[zz (x:=(lo:Int)) (by omega),zz (x:=(hi:Int)) (by omega)];have jc:=hR.fs;have hg:(!(e==(0:Int)))=true:=by simpa using he
 unfold kX at hk;rw[FY]at hk;generalize hr:FT c d (rV b p)=r at hR hk
 have bad:¬(lo≤x∧x≤hi)→Q (bif (c'==(0:Int))&&(d'==(0:Int))then F.za.aa n (fun e8 e9=>kr (aiS .i64 (x:Int)) (p':Int) e8 e9) e (p:Int) (!(e==(0:Int))) c' d' else F.za.aa n (fun e8 e9=>kr (aiS .i64 (x:Int)) (p':Int) e8 e9) e (p:Int) false c' d'):=fun n9 =>
  lb hg jc (fun hc=>hk _ _ _ _ h (by
   cases r with
   |error e=>exact absurd hc.1 hR.2.2
   |ok v =>obtain⟨_,_,rfl,rfl⟩:=hR;show gE (if lo≤v.1∧v.1≤hi then .ok v else .error (e,(p:Int))) _ _ _;rw[if_neg n9];exact⟨rfl,rfl,he⟩)) (fun hc=>hk _ _ _ _ h (by
   cases r with
   |error e=>exact hR
   |ok v=>exact absurd hR.1 hc))
 by_cases h1:lo≤x
 ·rw[zd (by omega)];by_cases h2:x≤hi
  ·rw[decide_eq_true (show(x:Int)≤(hi:Int)by omega),aiT,cond_false];refine hk _ _ _ _ h ?_;cases r with
   |error e=>exact hR
   |ok v =>obtain⟨q1,q2,rfl,rfl⟩:=hR;show gE (if lo≤v.1∧v.1≤hi then .ok v else .error (e,(p:Int))) _ _ _;rw[if_pos ⟨h1,h2⟩];exact⟨q1,q2,zh (by omega),rfl,h1,h2⟩
  ·rw[decide_eq_false (show ¬(x:Int)≤(hi:Int)by omega),ai2,cond_true];exact bad fun h=>h2 h.2
 ·rw[ze (by omega)];exact bad fun h=>h1 h.1
def Cq(b:List UInt8)(kind:Int)(ws:List (List UInt8))(f p:Nat):FE (List UInt8×Nat×List (List UInt8)):=
 if 65536≤ws.length then .error (12,(f:Int))else(rV b p).bind fun m=>if 200<m.1 then .error (12,(p:Int))else(kV b m.1 m.2).bind fun s =>
  if 0≤eu (cls kind) 0 s.1 then .error (14,(m.2:Int)+eu (cls kind) 0 s.1)else if ck s.1 ws 0≠0 then .error (21,(f:Int))else .ok (s.1,s.2,ws++[s.1])
def tb(b:List UInt8)(kind:Int)(ws:List (List UInt8))(p:Nat):FE (List UInt8×Nat×List (List UInt8)):=
 (rV b p).bind fun v=>if v.1=0 then Cq b kind ws p v.2 else if ws.length<v.1 then .error (25,(p:Int))else
  if 0≤eu (cls kind) 0 (ws.getD (v.1 - 1) [])then .error (14,(p:Int))else .ok (ws.getD (v.1 - 1) [],v.2,ws)
theorem z4t{kr:Bool→Int→Int→Option X}{kind q:Int}{s:List UInt8}(hn:2000≤n)(hs:s.length≤200)(hm:may kind=true)(hq:0≤q∧q≤1000000000)
 (h1:¬0≤eu (cls kind) 0 s→Q (kr true 0 0)) (h2:0≤eu (cls kind) 0 s→Q (kr false 14 (q+eu (cls kind) 0 s))):Q (F.za.ji n kr kind s 0 0 q):=by
 unfold F.za.ji;rw[zj8 n kind s (by omega) (by omega),hm,za];dsimp only[cond_true];rw[show((0:Int)==0)=true from rfl,cond_true];have:=zq0 (cls kind) 0 s;by_cases h:0≤eu (cls kind) 0 s
 ·rw[ze (by omega),zh (by omega)];exact lb rfl (.inl ⟨rfl,rfl⟩) (fun _=>h2 h) fun h=>absurd rfl h
 ·rw[zd (by omega)];exact h1 h
theorem z4g{kr:Bool→Int→Int→Option X}{kind q:Int}{s:List UInt8}(hn:2000≤n)(hs:s.length≤200)(hm:may kind=true)
 (h1:¬0≤eu (cls kind) 0 s→Q (kr true 0 0)) (h2:0≤eu (cls kind) 0 s→Q (kr false 14 q)):Q (F.za.hU n kr kind s 0 0 q):=by
 unfold F.za.hU;rw[zj8 n kind s (by omega) (by omega),hm,za];dsimp only[cond_true];rw[show((0:Int)==0)=true from rfl,cond_true];by_cases h:0≤eu (cls kind) 0 s
 ·rw[ze (by omega)];exact lb rfl (.inl ⟨rfl,rfl⟩) (fun _=>h2 h) fun h=>absurd rfl h
 ·rw[zd (by omega)];exact h1 h
def WI(mp:List (List UInt8×Int))(ws:List (List UInt8))(t:Nat):Prop:=DI ws t∧ml mp ws
def WG(Q:Option X→Prop)(b:List UInt8)(kr:WK X)(r:FE (List UInt8×Nat×List (List UInt8))):Prop:=
 ∀(s:List UInt8) (p':Nat) (c' d':Int) lW kY t',p'≤b.length→WI lW kY t'→s.length≤200→gE r (fun v=>s=v.1∧p'=v.2.1∧kY=v.2.2) c' d'→Q (kr s (p':Int) c' d' lW kY t')
theorem z4h{kr:WK X}{kind:Int}{f x p:Nat}{mp:List (List UInt8×Int)}{ws:List (List UInt8)}{t:Nat}(hn:2000≤n)(hb:b.length≤1000000000)(hp:p≤b.length)(hd:WI mp ws t)(hl:ws.length<65536)(hm:may kind=true)(hx:x≤200)
 (hk:WG Q b kr ((kV b x p).bind fun s=>if 0≤eu (cls kind) 0 s.1 then .error (14,(p:Int)+eu (cls kind) 0 s.1)else if ck s.1 ws 0≠0 then .error (21,(f:Int))else .ok (s.1,s.2,ws++[s.1]))) :
 Q (F.za.dX n kr kind (f:Int) (x:Int) b (p:Int) 0 0 mp ws t):=by
 unfold F.za.dX;rw[if_neg (by omega),zh (by omega)];refine zv8 hb (by omega) hp (.inl ⟨rfl,rfl⟩) fun s p' c' d' h hs hR _ => ?_;rw[lB]at hR;unfold WG at hk;generalize hr:kV b x p=r at hR hk;cases r with
 |error e =>obtain⟨h1,h2,h3⟩:=hR;rw[show(!((c'==(0:Int))&&(d'==(0:Int))))=true from by simp[h3],cond_true];exact hk [] p' c' d' mp ws t h hd (by simp) ⟨h1,h2,h3⟩
 | ok v =>
  obtain⟨rfl,rfl,rfl,rfl⟩:=hR;rw[show(!(((0:Int)==0)&&((0:Int)==0)))=false from rfl,cond_false];have hk:∀(s:List UInt8) (p':Nat) (c' d':Int) lW kY t',p'≤b.length→WI lW kY t'→s.length≤200→gE (if 0≤eu (cls kind) 0 v.1 then .error (14,(p:Int)+eu (cls kind) 0 v.1)else if ck v.1 ws 0≠0 then .error (21,(f:Int))else .ok (v.1,v.2,ws++[v.1])) (fun v=>s=v.1∧p'=v.2.1∧kY=v.2.2) c' d'→Q (kr s (p':Int) c' d' lW kY t'):=hk;refine z4t hn (by omega) hm (by omega) (fun kB => ?_) fun kB => ?_
  ·rw[aiT,cond_false];rw[if_neg kB]at hk;unfold js;rw[hd.2 v.1];by_cases hf:ck v.1 ws 0=0
   ·rw[if_pos hf];rw[if_neg (by simpa using hf)]at hk;dsimp only;rw[decide_eq_true (show(ws.length+1)*16≤2 ^ 46 by omega),hd.1.2.1,show Nat.beq ws.length ws.length=true from b_.2 rfl];have hmp:=hd.2.put v.1;unfold dmap cl at hmp;rw[if_pos hf,if_pos hf]at hmp
    exact hk _ _ _ _ _ _ _ h ⟨⟨by simp;omega,rfl,fun w hw=>by
     rcases List.mem_append.1 hw with h|h
     ·exact hd.1.2.2 w h
     ·rw[ame.1 h];omega⟩,hmp⟩ (by omega) ⟨rfl,rfl,rfl,rfl,rfl⟩
   ·rw[if_neg hf];rw[if_pos hf]at hk;exact lb rfl (.inl ⟨rfl,rfl⟩) (fun _=>hk _ _ _ _ _ _ _ h hd (by simp) ⟨rfl,rfl,by decide⟩) fun h=>absurd rfl h
  ·rw[ai2,cond_true];rw[if_pos kB]at hk;exact hk _ _ _ _ _ _ _ h hd (by simp) ⟨rfl,rfl,by decide⟩
theorem zov{kr:WK X}{kind f x c d:Int}{p:Nat}{mp:List (List UInt8×Int)}{ws:List (List UInt8)}{t:Nat}(hc:c≠0)(hk:Q (kr [] (p:Int) c d mp ws t)):Q (F.za.dX n kr kind f x b (p:Int) c d mp ws t):=by
 have e:(!((c==(0:Int))&&(d==(0:Int))))=true:=by simp[hc]
 unfold F.za.dX F.za.ca;rw[e,cond_true];dsimp only;rw[e,cond_true];exact hk
theorem z4u{kr:WK X}{kind:Int}{f p:Nat}{mp:List (List UInt8×Int)}{ws:List (List UInt8)}{t:Nat}(hn:2000≤n)(hb:b.length≤1000000000)(hp:p≤b.length)(hd:WI mp ws t)(hm:may kind=true)
 (hk:WG Q b kr (Cq b kind ws f p)):Q (F.za.fZ n kr kind (f:Int) b (p:Int) 0 0 mp ws t):=by
 unfold F.za.fZ;unfold Cq at hk;by_cases hl:65536≤ws.length
 ·rw[zd (by omega)];rw[if_pos hl]at hk;exact lb rfl (.inl ⟨rfl,rfl⟩) (fun _=>hk _ _ _ _ _ _ _ hp hd (by simp) ⟨rfl,rfl,by decide⟩) fun h=>absurd rfl h
 ·rw[ze (by omega)];rw[if_neg hl]at hk;refine FZ hn hb hp (.inl ⟨rfl,rfl⟩) fun x p' c' d' hx h hR tO => ?_;rw[lB]at hR;generalize hr:rV b p=r at hR hk;cases r with
  |error e =>have hc:=hR.2.2;have:x=0:=tO hc;subst this;rw[ze (by omega)];exact zov hc (hk _ _ _ _ _ _ _ h hd (by simp) hR)
  |ok v =>
   obtain⟨rfl,rfl,rfl,rfl⟩:=hR;have hk:WG Q b kr (if 200<v.1 then .error (12,(p:Int))else(kV b v.1 v.2).bind fun s=>if 0≤eu (cls kind) 0 s.1 then .error (14,(v.2:Int)+eu (cls kind) 0 s.1)else if ck s.1 ws 0≠0 then .error (21,(f:Int))else .ok (s.1,s.2,ws++[s.1])):=hk;by_cases h2:200<v.1
   ·rw[zd (by omega)];rw[if_pos h2]at hk;exact lb rfl (.inl ⟨rfl,rfl⟩) (fun _=>zov (by decide) (hk _ _ _ _ _ _ _ h hd (by simp) ⟨rfl,rfl,by decide⟩)) fun h=>absurd rfl h
   ·rw[ze (by omega)];rw[if_neg h2]at hk;exact z4h hn hb h hd (by omega) hm (by omega) hk
theorem z4v{kr:WK X}{kind:Int}{p:Nat}{c d:Int}{mp:List (List UInt8×Int)}{ws:List (List UInt8)}{t:Nat}(hn:2000≤n)(hb:b.length≤1000000000)(hp:p≤b.length)(hs:FS c d)(hd:WI mp ws t)(hm:may kind=true)(Hk:∃v,F.i_ n kind=some (v,0,()))
 (hk:WG Q b kr (FT c d (tb b kind ws p))):Q (F.za.gL n kr kind b (p:Int) c d mp ws t):=by
 unfold F.za.gL;obtain⟨v0,qF⟩:=Hk;rw[Lj,qF,za];rcases hs with⟨rfl,rfl⟩ |hs
 ·rw [lB]at hk;unfold tb at hk;rw[show(!(((0:Int)==0)&&((0:Int)==0)))=false from rfl,cond_false,show(!((0:Int)==0))=false from rfl,cond_false];refine FZ hn hb hp (.inl ⟨rfl,rfl⟩) fun x p' c' d' hx h hR _ => ?_;rw[lB]at hR;rw[Lj];generalize hr:rV b p=r at hR hk;cases r with
  |error e =>rw[show(!((c'==(0:Int))&&(d'==(0:Int))))=true from by simp[hR.2.2],cond_true];exact hk _ _ _ _ _ _ _ h hd (by simp) hR
  | ok v =>
   obtain⟨rfl,rfl,rfl,rfl⟩:=hR;have hk:WG Q b kr (if v.1=0 then Cq b kind ws p v.2 else if ws.length<v.1 then .error (25,(p:Int))else if 0≤eu (cls kind) 0 (ws.getD (v.1 - 1) [])then .error (14,(p:Int))else .ok (ws.getD (v.1 - 1) [],v.2,ws)):=hk;rw[show(!(((0:Int)==0)&&((0:Int)==0)))=false from rfl,cond_false];by_cases hz:v.1=0
   ·rw[show((v.1:Int)==0)=true from by simp[hz],cond_true];rw[if_pos hz]at hk;exact z4u hn hb h hd hm hk
   ·rw[show((v.1:Int)==0)=false from by simp[hz],cond_false,zz (x:=(ws.length:Int)) (by have:=hd.1.1;omega)];rw[if_neg hz]at hk;by_cases hl:ws.length<v.1
    ·rw[zd (by omega)];rw[if_pos hl]at hk;exact lb rfl (.inl ⟨rfl,rfl⟩) (fun _=>hk _ _ _ _ _ _ _ h hd (by simp) ⟨rfl,rfl,by decide⟩) fun h=>absurd rfl h
    ·rw[ze (by omega),zz (by omega),show((v.1:Int) - 1)=((v.1 - 1:Nat):Int)from by omega,qh (by omega),za];rw[if_neg hl]at hk;have eg:ws.getD (v.1 - 1) []=ws[v.1 - 1]'(by omega):=by rw[List.getD_eq_getElem?_getD,ai5 (by omega)];rfl
     rw[eg]at hk;have KN:(ws[v.1 - 1]'(by omega)).length≤200:=hd.1.2.2 _ (List.getElem_mem _);refine z4g hn KN hm (fun kB => ?_) fun kB => ?_
     ·rw[if_neg kB]at hk;exact hk _ _ _ _ _ _ _ h hd KN ⟨rfl,rfl,rfl,rfl,rfl⟩
     ·rw[if_pos kB]at hk;exact hk _ _ _ _ _ _ _ h hd (by simp) ⟨rfl,rfl,by decide⟩
 ·rw[show(!((c==(0:Int))&&(d==(0:Int))))=true from by simp[hs],cond_true];exact hk _ _ _ _ _ _ _ hp hd (by simp) (gE.stay hs)
def mn(b:List UInt8)(kind:Int)(lo hi:Nat)(e:Int)(ws:List (List UInt8))(p:Nat):FE (List UInt8×Nat×List (List UInt8)):=(tb b kind ws p).bind fun v=>if lo≤v.1.length∧v.1.length≤hi then .ok v else .error (e,(p:Int))
theorem zow{kr:WK X}{e kind:Int}{lo hi p:Nat}{c d:Int}{mp:List (List UInt8×Int)}{ws:List (List UInt8)}{t:Nat}(hn:2000≤n)(hb:b.length≤1000000000)(hp:p≤b.length)(hs:FS c d)(hd:WI mp ws t)(he:e≠0)(hm:may kind=true)(Hk:∃v,F.i_ n kind=some (v,0,()))
 (hk:WG Q b kr (FT c d (mn b kind lo hi e ws p))):Q (F.za.gN n kr e b (p:Int) c d mp ws kind (lo:Int) (hi:Int) t):=by
 unfold F.za.gN F.za.gM;refine z4v hn hb hp hs hd hm Hk fun s p' c' d' lW kY t' h jK lN hR => ?_;have jc:=hR.fs;have hg:(!(e==(0:Int)))=true:=by simpa using he
 unfold mn at hk;rw[FY]at hk;generalize hr:FT c d (tb b kind ws p)=r at hR hk
 have bad:¬(lo≤s.length∧s.length≤hi)→Q (bif (c'==(0:Int))&&(d'==(0:Int))then F.za.aa n (fun e8 e9=>kr s (p':Int) e8 e9 lW kY t') e (p:Int) (!(e==(0:Int))) c' d' else F.za.aa n (fun e8 e9=>kr s (p':Int) e8 e9 lW kY t') e (p:Int) false c' d'):=fun n9 =>
  lb hg jc (fun hc=>hk _ _ _ _ _ _ _ h jK lN (by
   cases r with
   |error e=>exact absurd hc.1 hR.2.2
   |ok v =>obtain⟨_,_,rfl,rfl,_⟩:=hR;show gE (if lo≤v.1.length∧v.1.length≤hi then .ok v else .error (e,(p:Int))) _ _ _;rw[if_neg n9];exact⟨rfl,rfl,he⟩)) (fun hc=>hk _ _ _ _ _ _ _ h jK lN (by
   cases r with
   |error e=>exact hR
   |ok v=>exact absurd hR.1 hc))
 by_cases h1:lo≤s.length
 ·rw[zd (by omega)];by_cases h2:s.length≤hi
  ·rw[decide_eq_true (show(s.length:Int)≤(hi:Int)by omega),aiT,cond_false];refine hk _ _ _ _ _ _ _ h jK lN ?_;cases r with
   |error e=>exact hR
   |ok v =>obtain⟨q1,q2,rfl,rfl,rfl⟩:=hR;show gE (if lo≤v.1.length∧v.1.length≤hi then .ok v else .error (e,(p:Int))) _ _ _;rw[if_pos ⟨h1,h2⟩];exact⟨q1,q2,rfl,rfl,rfl⟩
  ·rw[decide_eq_false (show ¬(s.length:Int)≤(hi:Int)by omega),ai2,cond_true];exact bad fun h=>h2 h.2
 ·rw[ze (by omega)];exact bad fun h=>h1 h.1
def wj(b:List UInt8)(p:Nat):FE (Nat×Nat):=(kW b p).bind fun v=>if 1≤v.1∧v.1≤5 then .ok v else .error (16,(p:Int))
theorem z4w{kr:Int→Int→Int→Int→Option X}{p:Nat}{c d:Int}(hb:b.length≤1000000000)(hp:p≤b.length)(hs:FS c d)
 (hk:∀(x:Nat)(p':Nat)(c' d':Int),p'≤b.length→gE (FT c d (wj b p)) (fun v=>x=v.1∧p'=v.2) c' d'→Q (kr (x:Int) (p':Int) c' d')):Q (F.za.iV n kr 16 b (p:Int) c d):=by
 unfold F.za.iV;refine zv9 hb hp hs fun x p' c' d' hx h hR => ?_;have jc:=hR.fs;have e2:F.xG n (x:Int)=some (decide (1≤x∧x≤5)):=by
  unfold F.xG;by_cases h1:1≤x
  ·rw[zd (by omega)];congr 1;by_cases h2:x≤5
   ·rw[decide_eq_true (by omega),decide_eq_true ⟨h1,h2⟩]
   ·rw[decide_eq_false (by omega),decide_eq_false (by omega)]
  ·rw[ze (by omega),decide_eq_false (by omega)]
 rw[zh (x:=(x:Int)) (by omega),e2,za];unfold wj at hk;rw[FY]at hk;generalize hr:FT c d (kW b p)=r at hR hk;by_cases BX:1≤x∧x≤5
 ·rw[decide_eq_true BX,aiT,cond_false];refine hk _ _ _ _ h ?_;cases r with
  |error e=>exact hR
  |ok v =>obtain⟨q1,q2,rfl,rfl⟩:=hR;show gE (if 1≤v.1∧v.1≤5 then .ok v else .error (16,(p:Int))) _ _ _;rw[if_pos BX];exact⟨q1,q2,rfl,rfl⟩
 ·rw[decide_eq_false BX,ai2,cond_true];refine lb rfl jc (fun hc=>hk _ _ _ _ h ?_) fun hc=>hk _ _ _ _ h ?_
  ·cases r with
   |error e=>exact absurd hc.1 hR.2.2
   |ok v =>obtain⟨_,_,rfl,rfl⟩:=hR;show gE (if 1≤v.1∧v.1≤5 then .ok v else .error (16,(p:Int))) _ _ _;rw[if_neg BX];exact⟨rfl,rfl,by decide⟩
  ·cases r with
   |error e=>exact hR
   |ok v=>exact absurd hR.1 hc
end
end Go.AM
namespace Go.AM
theorem UN(k:Nat):km .u64 (k:Int) (1:Int)=((k / 2:Nat):Int):=by show(k:Int).fdiv (2 ^ 1)=_;rw[Int.fdiv_eq_ediv_of_nonneg _ (by omega)];omega
theorem UO{k:Nat}(h:k<18446744073709551616):bw .and .u64 (k:Int) (1:Int)=((k % 2:Nat):Int):=by show aiS .u64 (((ak1 64 (k:Int)&&&ak1 64 1).toNat:Nat):Int)=_;rw[BitVec.toNat_and,alF,alF,show((k:Int) % ((2 ^ 64:Nat):Int)).toNat=k from by omega,show((1:Int) % ((2 ^ 64:Nat):Int)).toNat=1 from by decide,Nat.and_one_is_mod,zz (by omega)]
def jP(k:Nat):Int:=if k % 2=1 then -((k / 2:Nat):Int) - 1 else((k / 2:Nat):Int)
theorem z4i(n:Nat){k:Nat}(h:k<9223372036854775808):F.vf n (k:Int)=some (jP k):=by
 unfold F.vf jP;rw[UO (by omega),UN];by_cases h1:k % 2=1
 ·rw[h1,if_pos rfl,show(((1:Nat):Int)==1)=true from rfl,cond_true,zqr (by omega),IntKind.wrap_i64];congr 1;omega
 ·rw[if_neg h1,show((((k % 2:Nat)):Int)==1)=false from by simp;omega,cond_false,zh (by omega)]
theorem zz8{k:Nat}(h:k<9223372036854775808) : -9223372036854775808≤jP k∧jP k≤9223372036854775807:=by unfold jP;split<;>omega
section
variable {X:Type} {Q:Option X→Prop} {n:Nat} {b:List UInt8}
def Cr(b:List UInt8)(p:Nat):FE (az×Nat):=(rV b p).bind fun x=>(rV b x.2).bind fun y =>
 if fy (decide (x.1 % 2=1),(y.1:Int),jP (x.1 / 2))=0 then .ok ((decide (x.1 % 2=1),(y.1:Int),jP (x.1 / 2)),y.2)else .error (fy (decide (x.1 % 2=1),(y.1:Int),jP (x.1 / 2)),(p:Int))
theorem z4x{kr:Int→Int→Int→Bool→Int→Int→Option X}{p:Nat}{c d:Int}(hn:2000≤n)(hb:b.length≤1000000000)(hp:p≤b.length)(hs:FS c d)
 (hk:∀(g:Bool)(k e:Int)(p':Nat)(c' d':Int),p'≤b.length→gE (FT c d (Cr b p)) (fun v=>(g,k,e)=v.1∧p'=v.2) c' d'→Q (kr (p':Int) c' d' g k e)):Q (F.za.kM n kr b (p:Int) c d):=by
 unfold F.za.kM;refine FZ hn hb hp hs fun x p1 c1 d1 hx h1 qf _ => ?_;rw[UN,z4i n (by omega),za];refine FZ hn hb h1 qf.fs fun y p2 c2 d2 hy h2 mo _ => ?_;have e1:(bw .and .u64 (x:Int) (1:Int)==1)=decide (x % 2=1):=by
  rw[UO hx];by_cases h:x % 2=1
  ·rw[decide_eq_true h,h];rfl
  ·rw[decide_eq_false h];simp;omega
 rw[e1];have hN:=qf.next (k:=fun v=>rV b v.2) (r2:=rV b p1) fun v _ hv=>by rw[hv.2]
 have hD:FT c d (Cr b p)=(FT c1 d1 (rV b p1)).bind fun z=>if fy (decide (x % 2=1),(z.1:Int),jP (x / 2))=0 then .ok ((decide (x % 2=1),(z.1:Int),jP (x / 2)),z.2)else .error (fy (decide (x % 2=1),(z.1:Int),jP (x / 2)),(p:Int)):=by
  rw[hN];unfold Cr;rw[FY];generalize hr:FT c d (rV b p)=r at qf ⊢;cases r with
  |error e=>rfl
  |ok v=>obtain⟨_,_,rfl,rfl⟩:=qf;rfl
 rw[hD]at hk;generalize hr:FT c1 d1 (rV b p1)=r at mo hk;cases r with
 |error e =>
  obtain⟨q1,q2,q3⟩:=mo;have ez:((c2==(0:Int))&&(d2==(0:Int)))=false:=by simp[q3]
  rw[ez,cond_false,ai2,cond_true];exact hk _ _ _ _ _ _ h2 ⟨q1,q2,q3⟩
 |ok v =>
  obtain⟨rfl,rfl,rfl,rfl⟩:=mo;have hz:=zz8 (k:=x / 2) (by omega);have hc:=zid n (by omega) (d:=(decide (x % 2=1),(v.1:Int),jP (x / 2))) ⟨trivial,by dsimp only;omega,hz⟩;dsimp only at hc;have hk:∀(g:Bool)(k e:Int)(p':Nat)(c' d':Int),p'≤b.length→gE (if fy (decide (x % 2=1),(v.1:Int),jP (x / 2))=0 then(.ok ((decide (x % 2=1),(v.1:Int),jP (x / 2)),v.2):FE (az×Nat))else .error (fy (decide (x % 2=1),(v.1:Int),jP (x / 2)),(p:Int))) (fun v=>(g,k,e)=v.1∧p'=v.2) c' d'→Q (kr (p':Int) c' d' g k e):=hk;rw[show(((0:Int)==0)&&((0:Int)==0))=true from rfl,cond_true,hc,za,cond_true];unfold F.za.aa;by_cases h0:fy (decide (x % 2=1),(v.1:Int),jP (x / 2))=0
  ·rw[h0,show(!((0:Int)==0))=false from rfl,cond_false];rw[if_pos h0]at hk;dsimp only;rw[show(!(((0:Int)==0)&&((0:Int)==0)))=false from rfl,cond_false];exact hk _ _ _ _ _ _ h2 ⟨rfl,rfl,rfl,rfl⟩
  ·rw[show(!(fy (decide (x % 2=1),(v.1:Int),jP (x / 2))==0))=true from by simpa using h0,cond_true];rw[if_neg h0]at hk;dsimp only;rw[show(!((fy (decide (x % 2=1),(v.1:Int),jP (x / 2))==0)&&((p:Int)==0)))=true from by simp[h0],cond_true];exact hk _ _ _ _ _ _ h2 ⟨rfl,rfl,h0⟩
def yB(b:List UInt8):Nat→Nat→FE (List az×Nat)
 |0,p => .ok ([],p)
 |k+1,p=>(Cr b p).bind fun v=>(yB b k v.2).bind fun r => .ok (v.1::r.1,r.2)
theorem zwb{k0:Int→Int→Int→List az→Nat→Option X}{k r tm:Int}{nm:List UInt8}{tg:List ah}(hn:2000≤n)(hb:b.length≤1000000000) :
 ∀(j m:Nat)(v:Int)(p:Nat)(c d:Int)(l:List az),j<m→l.length+j≤64→p≤b.length→FS c d→(c=0→v=(j:Int)) →
 (∀(p':Nat)(c' d':Int)(l':List az),p'≤b.length→gE (FT c d (yB b j p)) (fun v=>l'=l++v.1∧p'=v.2) c' d'→Q (k0 (p':Int) c' d' l' l'.length)) →
 Q (F.za.gO n k0 m v b (p:Int) c d nm k l r tg tm l.length)
 |j,0,v,p,c,d,l,h1,h2,hp,hs,hv,hk=>by omega
 | j,m + 1,v,p,c,d,l,h1,h2,hp,hs,hv,hk=>by
  show Q (F.za.gO.step n (F.za.gO n k0 m) k0 v b (p:Int) c d nm k l r tg tm l.length);unfold F.za.gO.step;rcases hs with⟨rfl,rfl⟩ |hs
  ·rw[hv rfl];cases j with
   |zero =>rw[ze (by omega)];exact hk p 0 0 l hp ⟨rfl,rfl,by simp,rfl⟩
   | succ j =>
    rw[zd (by omega),show(((0:Int)==0)&&((0:Int)==0))=true from rfl,cond_true];unfold F.za.qQ;refine z4x hn hb hp (.inl ⟨rfl,rfl⟩) fun g k' e' p' c' d' h hR => ?_;rw[Lj,decide_eq_true (show(l.length+1)*24≤2 ^ 46 by omega),b_.2 (rfl:l.length=l.length)];have jc:=hR.fs;rw[lB]at hR hk;refine zwb hn hb j m _ p' c' d' (l++[(g,k',e')]) (by omega) (by simp;omega) h jc (fun _=>by rw[zh (by omega)];omega) fun p2 c2 d2 l2 Wp mo=>hk p2 c2 d2 l2 Wp ?_;rw[yB];generalize hr:Cr b p=r1 at hR ⊢;cases r1 with
    |error e=>rw[qL hR.2.2]at mo;obtain⟨q1,q2,q3⟩:=mo;exact⟨by rw[q1,hR.1],by rw[q2,hR.2.1],q3⟩
    |ok w =>
     obtain⟨rfl,rfl,hw,rfl⟩:=hR;rw[lB]at mo;show gE ((yB b j w.2).bind fun r => .ok (w.1::r.1,r.2)) _ _ _;generalize yB b j w.2=r2 at mo ⊢;cases r2 with
     |error e=>exact mo
     |ok z=>exact⟨mo.1,mo.2.1,by rw[mo.2.2.1,hw];simp,mo.2.2.2⟩
  ·have hx:Q (k0 (p:Int) c d l l.length):=hk p c d l hp (gE.stay hs);rw[show((c==(0:Int))&&(d==(0:Int)))=false from by simp[hs],cond_false];cases decide (v>0)<;>exact hx
def p9(b:List UInt8):Nat→List ah→List (List UInt8)→Nat→FE (List ah×Nat×List (List UInt8))
 |0,l,ws,p => .ok (l,p,ws)
 |k+1,l,ws,p=>(mn b 2 1 64 19 ws p).bind fun a=>(mn b 3 0 100 19 a.2.2 a.2.1).bind fun v =>
  if ∃t,l.getLast? = some t∧iB t (a.1,v.1)=false then .error (21,(p:Int))else p9 b k (l++[(a.1,v.1)]) v.2.2 v.2.1
theorem z4j{kn:Int→Int→Option X}{p:Nat}{c d:Int}{l:List ah}{s t:List UInt8}(hs:FS c d)(hl:l.length≤64)
 (hk:∀c' d',gE (FT c d (if ∃u,l.getLast? = some u∧iB u (s,t)=false then(.error (21,(p:Int)):FE Unit)else .ok ())) (fun _=>True) c' d'→Q (kn c' d')):Q (F.za.mS n kn (p:Int) (l.length:Int) c d l s t):=by
 unfold F.za.mS
 have z:∀g:Bool,(g=true↔∃u,l.getLast? = some u∧iB u (s,t)=false)→Q (F.za.kN n (fun a b=>kn a b) (p:Int) g c d):=fun g hg=>by
  unfold F.za.kN;cases g with
  |true =>rw[if_pos (hg.1 rfl)]at hk;rw[cond_true];exact lb rfl hs (fun hc=>hk _ _ (by rw[hc.1,hc.2,lB];exact⟨rfl,rfl,by decide⟩)) fun hc=>hk _ _ (gE.stay hc)
  |false =>
   rw[if_neg (fun h=>by have:=hg.2 h;cases this)]at hk;rw[cond_false];refine hk _ _ ?_;rcases hs with⟨rfl,rfl⟩ |hs
   ·exact⟨rfl,rfl,trivial⟩
   ·exact gE.stay hs
 by_cases h:0<l.length
 ·rw[zd (by omega),zh (by omega),show(l.length:Int) - 1=((l.length - 1:Nat):Int)from by omega,qh (by omega),za];have e:F.qn n ((l[l.length - 1]'(by omega)).1,(l[l.length - 1]'(by omega)).2,()) (s,t,())=some (iB (l[l.length - 1]'(by omega)) (s,t)):=zjl n _ (s,t);rw[e,za];refine z _ ?_;have hla:l.getLast? = some (l[l.length - 1]'(by omega)):=by rw[List.getLast?_eq_getElem?,ai5 (by omega)]
  rw[hla];constructor
  ·intro hh;exact⟨_,rfl,by simpa using hh⟩
  ·rintro ⟨u,hu,hh⟩;obtain rfl:=amI hu;rw[hh];rfl
 ·rw[ze (by omega)];have:l=[]:=List.eq_nil_of_length_eq_zero (by omega);subst this;exact z false ⟨fun h=>(by cases h),fun⟨u,hu,_⟩=>(by cases hu)⟩
def TG(Q:Option X→Prop)(b:List UInt8)(k2:TK X)(r:FE (List ah×Nat×List (List UInt8))):Prop:=
 ∀(p':Nat) (c' d':Int) lW kY l' t',p'≤b.length→WI lW kY t'→gE r (fun v=>l'=v.1∧p'=v.2.1∧kY=v.2.2) c' d'→Q (k2 (p':Int) c' d' lW kY l' t' l'.length)
theorem zwc{k2:TK X}(hn:2000≤n)(hb:b.length≤1000000000)(EY:∃v,F.i_ n 2=some (v,0,()))(Nr:∃v,F.i_ n 3=some (v,0,())) :
 ∀(j m:Nat)(v:Int)(p:Nat)(c d:Int)(mp:List (List UInt8×Int))(ws:List (List UInt8))(l:List ah)(t:Nat),j<m→l.length+j≤32→p≤b.length→FS c d→WI mp ws t→(c=0→v=(j:Int)) →
 TG Q b k2 (FT c d (p9 b j l ws p))→Q (F.za.gj n k2 m v b (p:Int) c d mp ws l t l.length)
 |j,0,v,p,c,d,mp,ws,l,t,h1,h2,hp,hs,hd,hv,hk=>by omega
 | j, m + 1,v,p,c,d,mp,ws,l,t,h1,h2,hp,hs,hd,hv,hk=>by
  show Q (F.za.gj.step n (F.za.gj n k2 m) k2 v b (p:Int) c d mp ws l t l.length);unfold F.za.gj.step;rcases hs with⟨rfl,rfl⟩ |hs
  ·rw [hv rfl];rw[lB]at hk;cases j with
   |zero =>rw[ze (by omega)];exact hk p 0 0 mp ws l t hp hd ⟨rfl,rfl,rfl,rfl,rfl⟩
   | succ j =>
    rw[zd (by omega),show(((0:Int)==0)&&((0:Int)==0))=true from rfl,cond_true];unfold F.za.pA F.za.pz;refine zow (lo:=1) (hi:=64) hn hb hp (.inl ⟨rfl,rfl⟩) hd (by decide) (by decide) EY fun s p1 c1 d1 mp1 ws1 t1 qc K7 LF qf => ?_;rw[lB]at qf;unfold F.za.py;refine zow (lo:=0) (hi:=100) hn hb qc qf.fs K7 (by decide) (by decide) Nr fun w p2 c2 d2 Ll Lm t2 nB nY hs2 mo => ?_;unfold F.za.px;refine z4j mo.fs (by omega) fun c3 d3 uD => ?_;unfold F.za.pw;rw[decide_eq_true (show(l.length+1)*32≤2 ^ 46 by omega),b_.2 (rfl:l.length=l.length)];refine zwc hn hb EY Nr j m _ p2 c3 d3 Ll Lm (l++[(s,w)]) t2 (by omega) (by simp;omega) nB uD.fs nY (fun _=>by rw[zh (by omega)];omega) fun p4 c4 d4 mp4 ws4 l4 t4 Wq hd4 wS=>hk p4 c4 d4 mp4 ws4 l4 t4 Wq hd4 ?_;rw[p9];generalize mn b 2 1 64 19 ws p=r1 at qf ⊢;cases r1 with
    |error e =>obtain⟨q1,q2,q3⟩:=qf;rw[qL q3]at mo;obtain⟨u1,u2,u3⟩:=mo;rw[qL u3]at uD;obtain⟨v1,v2,v3⟩:=uD;rw[qL v3]at wS;obtain⟨w1,w2,w3⟩:=wS;dsimp only at u1 u2 v1 v2 w1 w2;exact⟨by rw[w1,v1,u1,q1],by rw[w2,v2,u2,q2],w3⟩
    | ok a =>
     obtain⟨rfl,rfl,rfl,rfl,rfl⟩:=qf;rw[lB]at mo;show gE ((mn b 3 0 100 19 a.2.2 a.2.1).bind _) _ _ _;generalize mn b 3 0 100 19 a.2.2 a.2.1=r2 at mo ⊢;cases r2 with
     |error e =>obtain⟨u1,u2,u3⟩:=mo;rw[qL u3]at uD;obtain⟨v1,v2,v3⟩:=uD;rw[qL v3]at wS;obtain⟨w1,w2,w3⟩:=wS;dsimp only at v1 v2 w1 w2;exact⟨by rw[w1,v1,u1],by rw[w2,v2,u2],w3⟩
     |ok y =>
      obtain⟨rfl,rfl,rfl,rfl,rfl⟩:=mo;rw[lB]at uD;show gE (if ∃t,l.getLast? = some t∧iB t (a.1,y.1)=false then .error (21,(p:Int))else p9 b j (l++[(a.1,y.1)]) y.2.2 y.2.1) _ _ _;by_cases bo:∃t,l.getLast? = some t∧iB t (a.1,y.1)=false
      ·rw[if_pos bo]at uD ⊢;obtain⟨v1,v2,v3⟩:=uD;rw[qL v3]at wS;obtain⟨w1,w2,w3⟩:=wS;dsimp only at v1 v2 w1 w2;exact⟨by rw[w1,v1],by rw[w2,v2],w3⟩
      ·rw[if_neg bo]at uD ⊢;obtain⟨rfl,rfl,_⟩:=uD;rw[lB]at wS;exact wS
  ·have hx:Q (k2 (p:Int) c d mp ws l t l.length):=hk p c d mp ws l t hp hd (gE.stay hs);rw[show((c==(0:Int))&&(d==(0:Int)))=false from by simp[hs],cond_false];cases decide (v>0)<;>exact hx
end
end Go.AM
namespace Go.AM
def lF{α β:Type}(r:FE α)(k:α→FE β):FE (α×β):=r.bind fun v=>(k v).bind fun w => .ok (v,w)
theorem gE.pair{α β:Type}{r:FE α}{P:α→Prop}{P2:β→Prop}{c d c2 d2:Int}(h:gE r P c d){k:α→FE β}{r2:FE β}(h2:gE (FT c d r2) P2 c2 d2)(hk:∀v,r = .ok v→c=0→P v→r2=k v):gE (lF r k) (fun z=>P z.1∧P2 z.2) c2 d2:=by
 cases r with
 |error e =>obtain⟨q1,q2,q3⟩:=h;rw[qL q3]at h2;obtain⟨u1,u2,u3⟩:=h2;exact⟨by rw[u1];exact q1,by rw[u2];exact q2,u3⟩
 |ok v =>
  obtain⟨rfl,rfl,q3⟩:=h;rw[lB,hk v rfl rfl q3]at h2;show gE ((k v).bind fun w => .ok (v,w)) _ c2 d2;generalize k v=y at h2 ⊢;cases y with
  |error e=>exact h2
  |ok w=>exact⟨h2.1,h2.2.1,q3,h2.2.2⟩
theorem gE.last{α β:Type}{r:FE α}{P:α→Prop}{P2:β→Prop}{c d:Int}(h:gE r P c d){k:α→β}(hk:∀v,c=0→P v→P2 (k v)):gE (r.bind fun v => .ok (k v)) P2 c d:=by
 cases r with
 |error e=>exact h
 |ok v=>exact⟨h.1,h.2.1,hk v h.1 h.2.2⟩
theorem ud{α β:Type}{r:FE α}{k:α→FE β}{v:α}{w:β}(h1:r = .ok v)(h2:k v = .ok w):lF r k = .ok (v,w):=by unfold lF;rw[h1];show((k v).bind fun w => .ok (v,w))=_;rw[h2];rfl
abbrev Cs:=List UInt8×Nat×List (List UInt8)
abbrev NN:=Nat×Nat
def UP(b:List UInt8)(ws:List (List UInt8))(p:Nat):FE (((((((Cs×NN)×NN)×(List az×Nat))×NN)×NN)×(List ah×Nat×List (List UInt8)))×NN):=
 lF (lF (lF (lF (lF (lF (lF (mn b 1 1 200 15 ws p) fun z=>wj b z.2.1) fun z=>kX b 1 64 17 z.2.2) fun z=>yB b z.2.1 z.2.2) fun z=>kX b (if z.1.1.2.1=2 then 1000000 else 1) 1000000 18 z.2.2) fun z=>kX b 0 32 19 z.2.2) fun z=>p9 b z.2.1 [] z.1.1.1.1.1.2.2 z.2.2) fun z=>kX b 0 1099511627776 20 z.2.2.1
def zN(b:List UInt8)(ws:List (List UInt8))(p:Nat):FE (au×Nat×List (List UInt8)):=
 (UP b ws p).bind fun z => .ok ((z.1.1.1.1.1.1.1.1,(z.1.1.1.1.1.1.2.1:Int),z.1.1.1.1.2.1,(z.1.1.1.2.1:Int),z.1.2.1,(z.2.1:Int)),z.2.2,z.1.2.2.2)
section
variable {X:Type} {Q:Option X→Prop} {n:Nat} {b:List UInt8}
theorem zik(hn:2000≤n){c:Int}(hm:may c=true):∃v,F.i_ n c=some (v,0,()):=by unfold F.i_;rw[zqz,hm,za,aiT,cond_false];exact zfj (Q:=fun o=>∃v,o=some (v,0,())) (fun v=>⟨_,rfl⟩) n 0 c 0 (by omega) (by omega)
theorem z4y{kr:GK X}{p:Nat}{mp:List (List UInt8×Int)}{ws:List (List UInt8)}{t:Nat}(hn:2000≤n)(hb:b.length≤1000000000)(hp:p≤b.length)(hd:WI mp ws t)
 (hk:∀(p':Nat) (c' d':Int) lW kY nm k vs r tg tm t' u1 u2,p'≤b.length→WI lW kY t'→gE (zN b ws p) (fun v=>((nm,k,vs,r,tg,tm):au)=v.1∧p'=v.2.1∧kY=v.2.2) c' d'→Q (kr (p':Int) c' d' lW kY nm k vs r tg tm t' u1 u2)):Q (F.za.nO n kr b (p:Int) 0 0 mp ws t):=by
 have hc1:=zik (n:=n) hn (c:=1) (by decide);have EY:=zik (n:=n) hn (c:=2) (by decide);have Nr:=zik (n:=n) hn (c:=3) (by decide);unfold F.za.nO;rw[show(!(((0:Int)==0)&&((0:Int)==0)))=false from rfl,cond_false];unfold F.za.qU;refine zow (lo:=1) (hi:=200) hn hb hp (.inl ⟨rfl,rfl⟩) hd (by decide) (by decide) hc1 fun s p1 c1 d1 mp1 ws1 t1 h1 K7 LF qf => ?_;rw[lB]at qf;unfold F.za.qT;refine z4w hb h1 qf.fs fun k p2 c2 d2 h2 mo => ?_;have hS2:=qf.pair (k:=fun z=>wj b z.2.1) mo (fun v _ _ hv=>by rw[hv.2.1]);unfold F.za.qS;refine Nq (lo:=1) (hi:=64) hn hb h2 mo.fs (by decide) (by decide) fun x p3 c3 d3 h3 uD => ?_;have F0:=hS2.pair (k:=fun z=>kX b 1 64 17 z.2.2) uD (fun v _ _ hv=>by rw[hv.2.2]);unfold F.za.qR;have hj:∃j:Nat,j≤64∧(c3=0→x=(j:Int)):=by
  generalize lF (lF (mn b 1 1 200 15 ws p) fun z=>wj b z.2.1) (fun z=>kX b 1 64 17 z.2.2)=r3 at F0;cases r3 with
  |error e=>exact⟨0,by omega,fun h=>absurd h F0.2.2⟩
  |ok v=>exact⟨v.2.1,F0.2.2.2.2.2.2,fun _=>F0.2.2.2.1⟩
 obtain⟨j,hj1,An⟩:=hj;refine zwb hn hb j n x p3 c3 d3 [] (by omega) (by simp;omega) h3 uD.fs An fun p4 c4 d4 vs h4 wS => ?_;have hS4:=F0.pair (k:=fun z=>yB b z.2.1 z.2.2) wS (fun v _ hc hv=>by have e:=An hc;rw[hv.2.1]at e;rw[hv.2.2.1,show j=v.2.1 from by omega]);unfold F.za.pF
 have z:∀lo:Nat,lo=(if k=2 then 1000000 else 1)→Q (F.za.kO n (fun a b c d e f g h i j k l m o=>kr a b c d e f g h i j k l m o) (lo:Int) b (p4:Int) c4 d4 mp1 ws1 s (k:Int) vs [] t1 vs.length 0):=by
  intro lo Gi;have aBr:lo≤1000000:=by rw[Gi];split<;>omega
  unfold F.za.kO;refine Nq (lo:=lo) (hi:=1000000) hn hb h4 wS.fs (by decide) (by omega) fun rt p5 c5 d5 h5 hR5 => ?_;have hS5:=hS4.pair (k:=fun z=>kX b (if z.1.1.2.1=2 then 1000000 else 1) 1000000 18 z.2.2) hR5 (fun v _ _ hv=>by rw[hv.2.2,Gi,hv.1.1.2.1]);unfold F.za.pE;refine Nq (lo:=0) (hi:=32) hn hb h5 hR5.fs (by decide) (by decide) fun y p6 c6 d6 h6 F1 => ?_;have hS6:=hS5.pair (k:=fun z=>kX b 0 32 19 z.2.2) F1 (fun v _ _ hv=>by rw[hv.2.2.1]);unfold F.za.pB;have hi:∃i:Nat,i≤32∧(c6=0→y=(i:Int)):=by
   clear hS5 hS4 F0 hS2 hR5 wS uD mo qf;generalize FT c5 d5 (kX b 0 32 19 p5)=r6 at F1;cases r6 with
   |error e=>exact⟨0,by omega,fun h=>absurd h F1.2.2⟩
   |ok v=>exact⟨v.1,F1.2.2.2.2.2,fun _=>F1.2.2.1⟩
  obtain⟨i,F8,qB⟩:=hi;refine zwc hn hb EY Nr i n y p6 c6 d6 mp1 ws1 [] t1 (by omega) (by simp;omega) h6 F1.fs K7 qB fun p7 c7 d7 mp7 ws7 tg t7 h7 hd7 hR7 => ?_;have hS7:=hS6.pair (k:=fun z=>p9 b z.2.1 [] z.1.1.1.1.1.2.2 z.2.2) hR7 (fun v _ hc hv=>by have e:=qB hc;rw[hv.2.1]at e;rw[hv.2.2.1,show i=v.2.1 from by omega,hv.1.1.1.1.1.2.2]);unfold F.za.pD;refine Nq (lo:=0) (hi:=1099511627776) hn hb h7 hR7.fs (by decide) (by decide) fun w p8 c8 d8 h8 hR8 => ?_;have hS8:=hS7.pair (k:=fun z=>kX b 0 1099511627776 20 z.2.2.1) hR8 (fun v _ _ hv=>by rw[hv.2.2.1]);unfold F.za.pC;rcases hS8.fs with⟨e1,e2⟩ |e1
  ·subst e1 e2;rw[show(!(((0:Int)==0)&&((0:Int)==0)))=false from rfl,cond_false];refine hk _ _ _ _ _ _ _ _ _ _ _ _ _ _ h8 hd7 (hS8.last fun v _ hv => ?_);obtain⟨⟨⟨⟨⟨⟨⟨q1,q2⟩,q3⟩,q4⟩,q5⟩,q6⟩,q7⟩,q8⟩:=hv;dsimp only;rw[←q1.1,←q2.1,←q5.1,←q7.1,←q8.1,←q8.2.1,←q7.2.2];refine⟨?_,rfl,rfl⟩;have:=q4.1;rw[ai8]at this;rw[this]
  ·rw[show(!((c8==(0:Int))&&(d8==(0:Int))))=true from by simp[e1],cond_true];exact hk _ _ _ _ _ _ _ _ _ _ _ _ _ _ h8 hd7 (hS8.last fun v h=>absurd h e1)
 by_cases kg:k=2
 ·rw[show((k:Int)==2)=true from by simp[kg]];exact z 1000000 (by rw[if_pos kg])
 ·rw[show((k:Int)==2)=false from by simp;omega];exact z 1 (by rw[if_neg kg])
def p_(b:List UInt8):Nat→List (List UInt8)→Nat→FE (List au×Nat)
 |0,ws,p => .ok ([],p)
 |k+1,ws,p=>(zN b ws p).bind fun v=>(p_ b k v.2.2 v.2.1).bind fun r => .ok (v.1::r.1,r.2)
def wk(b:List UInt8):FE (List au):=(rV b 0).bind fun c=>if 1000<c.1 then .error (12,0)else(p_ b c.1 [] c.2).bind fun r=>if r.2<b.length then .error (11,(r.2:Int))else .ok r.1
theorem zwd{k0 k1:List au→Int→Int→Int→List (List UInt8×Int)→List (List UInt8)→Nat→Nat→Option X}{v:Nat}(hn:2000≤n)(hb:b.length≤1000000000)(hv:v≤1000) :
 ∀(j m:Nat)(p:Nat)(l:List au)(mp:List (List UInt8×Int))(ws:List (List UInt8))(u:Nat),l.length+j=v→j<m→p≤b.length→WI mp ws u →
 (∀(l':List au) (p':Nat) lW kY u' r,p'≤b.length→p_ b j ws p = .ok (r,p')→l'=l++r→Q (k0 l' (p':Int) 0 0 lW kY l'.length u')) →
 (∀(l':List au) (p':Nat) (c d:Int) lW kY t' u',c≠0→p_ b j ws p = .error (c,d)→Q (k1 l' (p':Int) c d lW kY t' u')) →
 Q (F.za.d_ n k0 k1 m (v:Int) (l.length:Int) l b (p:Int) 0 0 true mp ws l.length u)
 |j,0,p,l,mp,ws,u,h1,h2,hp,hd,hk,hr=>by omega
 | j,m + 1,p,l,mp,ws,u,h1,h2,hp,hd,hk,hr=>by
  show Q (F.za.d_.step n (F.za.d_ n k0 k1 m) k0 k1 (v:Int) (l.length:Int) l b (p:Int) 0 0 true mp ws l.length u);unfold F.za.d_.step;cases j with
  |zero =>rw[ze (by omega)];exact hk l p mp ws u [] hp rfl (by simp)
  |succ j =>
   rw[zd (by omega)];refine z4y hn hb hp hd fun p' c' d' lW kY nm k vs r tg tm t' u1 u2 h jK hR => ?_;rw[Lj,decide_eq_true (show(l.length+1)*88≤2 ^ 46 by omega),b_.2 (rfl:l.length=l.length),zz (by omega)];show Q (bif true && !((c'==(0:Int))&&(d'==(0:Int)))then _ else _);rw[p_]at hk hr;generalize zN b ws p=y at hR hk hr;cases y with
   |error e =>obtain⟨q1,q2,q3⟩:=hR;rw[show(true && !((c'==(0:Int))&&(d'==(0:Int))))=true from by simp[q3],cond_true];exact hr _ _ _ _ _ _ _ _ q3 (by rw[q1,q2];rfl)
   |ok z =>obtain⟨rfl,rfl,q3,rfl,rfl⟩:=hR;rw[show(true && !(((0:Int)==0)&&((0:Int)==0)))=false from rfl,cond_false];have hk:∀(l':List au) (p':Nat) lW kY u' r,p'≤b.length→((p_ b j z.2.2 z.2.1).bind fun r => .ok (z.1::r.1,r.2)) = .ok (r,p')→l'=l++r→Q (k0 l' (p':Int) 0 0 lW kY l'.length u'):=hk;have hr:∀(l':List au) (p':Nat) (c d:Int) lW kY t' u',c≠0→((p_ b j z.2.2 z.2.1).bind fun r => .ok (z.1::r.1,r.2)) = .error (c,d)→Q (k1 l' (p':Int) c d lW kY t' u'):=hr;rw[q3];have:=zwd (k0:=k0) (k1:=k1) hn hb hv j m z.2.1 (l++[z.1]) lW z.2.2 t' (by simp;omega) (by omega) h jK (fun l' p' Ll Lm u' r xl he hl=>hk l' p' Ll Lm u' (z.1::r) xl (by rw[he];rfl) (by rw[hl];simp)) (fun l' p' c d Ll Lm t2 u' hc he=>hr l' p' c d Ll Lm t2 u' hc (by rw[he];rfl));rw[show(l.length:Int)+1=((l++[z.1]).length:Int)by simp];exact this
theorem zwe(hn:2000≤n)(hb:b.length≤1000000000):F.za n b=match wk b with
 |.ok l=>some (l,(0,0,()),())
 |.error e=>some ([],(e.1,e.2,()),()):=by
 unfold F.za;rw[show Nat.ble b.length 70368744177664=true from jZ.2 (by omega)];have bad:∀(l:List au)(c d:Int),c≠0→(bif !((c==(0:Int))&&(d==(0:Int)))then some (([]:List au),(c,d,()),())else some (l,((0:Int),(0:Int),()),()))=some ([],(c,d,()),()):=fun l c d h=>by rw[show(!((c==(0:Int))&&(d==(0:Int))))=true from by simp[h],cond_true]
 refine FZ (Q:=fun r=>r=match wk b with|.ok l=>some (l,(0,0,()),()) |.error e=>some ([],(e.1,e.2,()),())) hn hb (amt _) (.inl ⟨rfl,rfl⟩) fun x p c d hx hp hR _ => ?_;rw[lB]at hR;unfold wk;have stop:∀(k0 k1:List au→Int→Int→Int→Nat→Option (List au×(Int×Int×Unit)×Unit))(x:Int)(c d:Int),c≠0→F.za.eR n k0 k1 x [] b (p:Int) c d true 0=k0 [] (p:Int) c d 0:=fun k0 k1 x c d h=>by unfold F.za.eR;rw[show(true && !((c==(0:Int))&&(d==(0:Int))))=true from by simp[h],cond_true]
 generalize hv:rV b 0=r at hR;cases r with
 |error e =>
  obtain⟨q1,q2,q3⟩:=hR;have key:∀y:Option (List au×(Int×Int×Unit)×Unit),y=some ([],(c,d,()),())→y=some ([],(e.1,e.2,()),()):=fun y h=>by rw[h,q1,q2]
  apply key;refine bq (Q:=fun r=>r=some (([]:List au),(c,d,()),())) (fun _=>lb (Q:=fun r=>r=some (([]:List au),(c,d,()),())) rfl (.inr q3) (fun h=>absurd h.1 q3) fun _ => ?_) fun _ => ?_
  ·rw[stop _ _ _ _ _ q3];exact bad _ _ _ q3
  ·rw[stop _ _ _ _ _ q3];exact bad _ _ _ q3
 | ok v =>
  obtain⟨rfl,rfl,rfl,rfl⟩:=hR;show _=match(if 1000<v.1 then .error (12,0)else(p_ b v.1 [] v.2).bind fun r=>if r.2<b.length then .error (11,(r.2:Int))else .ok r.1:FE (List au))with|.ok l=>some (l,(0,0,()),()) |.error e=>some ([],(e.1,e.2,()),())
  by_cases h1:1000<v.1
  ·rw[if_pos h1,zd (by omega)];refine lb (Q:=fun r=>r=some (([]:List au),((12:Int),(0:Int),()),())) rfl (.inl ⟨rfl,rfl⟩) (fun _ => ?_) fun h=>absurd rfl h;rw[stop _ _ _ _ _ (by decide)];exact bad _ _ _ (by decide)
  ·rw[if_neg h1,ze (by omega)];unfold F.za.eR;rw[show(true && !(((0:Int)==0)&&((0:Int)==0)))=false from rfl,cond_false];refine zwd (Q:=fun r=>r=match((p_ b v.1 [] v.2).bind fun r=>if r.2<b.length then .error (11,(r.2:Int))else .ok r.1:FE (List au))with|.ok l=>some (l,(0,0,()),()) |.error e=>some ([],(e.1,e.2,()),())) hn hb (v:=v.1) (by omega) v.1 n v.2 [] [] [] 0 (by simp) (by omega) hp ⟨DI.nil,fun s=>rfl⟩ (fun l' p' lW kY u' r xl he hl => ?_) (fun l' p' c d lW kY t' u' hc he => ?_)
   ·rw[he];rw[ai8]at hl;subst hl;show _=match(if p'<b.length then .error (11,(p':Int))else .ok l':FE (List au))with|.ok l=>some (l,(0,0,()),()) |.error e=>some ([],(e.1,e.2,()),())
    rw[zh (by omega)];by_cases h2:p'<b.length
    ·rw[zd (by omega),if_pos h2];exact lb (Q:=fun r=>r=some (([]:List au),((11:Int),(p':Int),()),())) rfl (.inl ⟨rfl,rfl⟩) (fun _=>bad _ _ _ (by decide)) fun h=>absurd rfl h
    ·rw[ze (by omega),if_neg h2];rfl
   ·rw[he];exact bad _ _ _ hc
end
end Go.AM
namespace Go.AM
theorem oK{α β:Type}(v:α)(k:α→FE β):(amJ v:FE α).bind k=k v:=rfl
theorem Ln{b r s:List UInt8}{p:Nat}(h:b.drop p=s++r)(hs:0<s.length):p+s.length≤b.length∧b.drop (p+s.length)=r:=by have:=congrArg amm h;rw[ai6,ai3]at this;refine⟨by omega,?_⟩;rw[←alO,h,amj]
theorem zfk{b r:List UInt8}{p x:Nat}(h:b.drop p=ai1 x::r)(hx:x<256):kW b p = .ok (x,p+1)∧b.drop (p+1)=r:=by
 have hl:=Ln (s:=[ai1 x]) (r:=r) h (by simp);have e:b[p]? = some (ai1 x):=by have:=congrArg (fun l:List UInt8=>l[0]?) h;simpa using this
 refine⟨?_,hl.2⟩;unfold kW;rw[e];show amJ ((ai1 x).toNat,p+1)=_;rw[show(ai1 x).toNat=x from by simp;omega]
theorem zra{b:List UInt8}:∀(j k v p x:Nat)(r:List UInt8),j+k=10→0<j→x<128 ^ j→(k=9→x≤1)→(0<k→0<x)→(x*128 ^ k<18446744073709551616)→b.drop p=bz x++r→Bo b j k v p = .ok (v+x*128 ^ k,p+(bz x).length)
 |0,k,v,p,x,r,h1,h2,h3,h4,h5,h6,h=>by omega
 | j + 1,k,v,p,x,r,h1,h2,h3,h4,h5,h6,h=>by
  rw[Bo];by_cases hx:x<128
  ·rw[lS hx]at h ⊢;obtain⟨e,_⟩:=zfk (p:=p) (r:=r) h (by omega);rw[e];show(if k=9∧1<x then _ else _)=_;rw[if_neg (by omega),if_neg (by omega),if_neg (by omega)];rfl
  ·rw[yO hx]at h ⊢;obtain⟨e,er⟩:=zfk (p:=p) (x:=x % 128+128) (r:=bz (x / 128)++r) h (by omega);have hk:k≤8:=by
    rcases Nat.lt_or_ge k 9 with h|h
    ·omega
    ·have:=h4 (by omega);omega
   rw[e];show(if k=9∧1<x % 128+128 then _ else if 128≤x % 128+128 then Bo b j (k+1) (v+(x % 128+128) % 128*128 ^ k) (p+1)else _)=_;rw[if_neg (by omega),if_pos (by omega)];have ed:x / 128*128 ^ (k+1)+x % 128*128 ^ k=x*128 ^ k:=by rw[alT,amh (128 ^ k) 128,←Nat.mul_assoc,←Nat.add_mul];congr 1;omega
   have hp:0<128 ^ k:=Nat.pow_pos (by decide);have hj:0<j:=by
    rcases Nat.eq_zero_or_pos j with rfl|h
    ·omega
    ·exact h
   rw[zra j (k+1) _ (p+1) (x / 128) r (by omega) hj (by rw[alT]at h3;exact Nat.div_lt_of_lt_mul (by rw[amh];exact h3)) (fun h9=>by
    have e8:k=8:=by omega
    subst e8;have h72:(128:Nat) ^ 8=72057594037927936:=by decide
    rw[h72]at h6;omega) (fun _=>by omega) (by omega) er,show(x % 128+128) % 128=x % 128 from by omega,ai0]
   congr 2
   ·omega
   ·omega
theorem DD{b r:List UInt8}{p x:Nat}(hx:x<18446744073709551616)(h:b.drop p=bz x++r):rV b p = .ok (x,p+(bz x).length)∧b.drop (p+(bz x).length)=r∧p+(bz x).length≤b.length:=by
 have h0:0<(bz x).length:=by rw[bz];split<;>simp
 obtain⟨d1,d2⟩:=Ln h h0;refine⟨?_,d2,d1⟩;unfold rV;rw[zra 10 0 0 p x r rfl (by decide) (have Cp:(128:Nat) ^ 10=1180591620717411303424:=(by decide);by omega) (fun h=>by omega) (fun h=>by omega) (by omega) h];congr 2;omega
theorem Ns{b r:List UInt8}{p x lo hi:Nat}{e:Int}(hx:lo≤x∧x≤hi)(hh:hi<18446744073709551616)(h:b.drop p=bz x++r):kX b lo hi e p = .ok (x,p+(bz x).length)∧b.drop (p+(bz x).length)=r∧p+(bz x).length≤b.length:=by obtain⟨h1,h2,h3⟩:=DD (by omega) h;refine⟨?_,h2,h3⟩;unfold kX;rw[h1];exact if_pos hx
theorem zly:∀(ws:List (List UInt8))(i:Nat)(s:List UInt8),ck s ws i≠0→i<ck s ws i∧ws[ck s ws i - i - 1]? = some s
 |[],i,s,h=>by simp[ck]at h
 |w :: ws,i,s,h=>by
  by_cases hw:w=s
  ·have e:ck s (w::ws) i=i+1:=if_pos hw;rw[e,hw];exact⟨by omega,by simp⟩
  ·have e:ck s (w::ws) i=ck s ws (i+1):=if_neg hw;rw[e]at h ⊢;obtain⟨h1,h2⟩:=zly ws (i+1) s h;refine⟨by omega,?_⟩;rw[show ck s ws (i+1) - i - 1=ck s ws (i+1) - (i+1) - 1+1 from by omega,List.getElem?_cons_succ];exact h2
theorem zlz:∀(ws:List (List UInt8))(i:Nat)(s:List UInt8),ck s ws i=0↔s∉ws
 |[],i,s=>by simp[ck]
 |w :: ws,i,s=>by
  by_cases hw:w=s
  ·have e:ck s (w::ws) i=i+1:=if_pos hw;rw[e];simp[hw]
  ·have e:ck s (w::ws) i=ck s ws (i+1):=if_neg hw;rw[e,zlz ws (i+1) s,amp,not_or];exact⟨fun h=>⟨fun h2=>hw h2.symm,h⟩,And.right⟩
theorem zs7{ws:List (List UInt8)}(h:ws.Nodup)(s:List UInt8):(cl ws s).2.Nodup:=by
 unfold cl;by_cases hf:ck s ws 0=0
 ·rw[if_pos hf];exact List.nodup_append.2 ⟨h,by simp,fun a ha b hb e=>by rw[ame.1 hb]at e;subst e;exact(zlz ws 0 a).1 hf ha⟩
 ·rw[if_neg hf];exact h
theorem zwf{b s r:List UInt8}{p:Nat}(h:b.drop p=s++r)(hp:p≤b.length):kV b s.length p = .ok (s,p+s.length)∧b.drop (p+s.length)=r∧p+s.length≤b.length:=by have hl:=congrArg amm h;rw[ai6,ai3]at hl;unfold kV;rw[if_neg (by omega),h,List.take_left];exact⟨rfl,by rw[←alO,h,amj],by omega⟩
theorem zox{b r s:List UInt8}{p lo hi:Nat}{kind e:Int}{ws:List (List UInt8)}(hl:lo≤s.length∧s.length≤hi)(h2:s.length≤200)(hc:¬0≤eu (cls kind) 0 s)(hw:ws.length<65536)(hp:p≤b.length)(h:b.drop p=(cl ws s).1++r) :
 mn b kind lo hi e ws p = .ok (s,p+(cl ws s).1.length,(cl ws s).2)∧b.drop (p+(cl ws s).1.length)=r∧p+(cl ws s).1.length≤b.length:=by
 have key:tb b kind ws p = .ok (s,p+(cl ws s).1.length,(cl ws s).2)∧b.drop (p+(cl ws s).1.length)=r∧p+(cl ws s).1.length≤b.length:=by
  unfold cl at h ⊢;by_cases hf:ck s ws 0=0
  ·rw[if_pos hf]at h ⊢;have h:b.drop p=bz 0++(bz s.length++(s++r)):=by rw[h,lS (by omega:0<128)];simp
   obtain⟨a1,a2,a3⟩:=DD (by omega) h;obtain⟨c1,c2,c3⟩:=DD (by omega) a2;obtain⟨d1,d2,d3⟩:=zwf c2 c3;have el:([ai1 0]++bz s.length++s).length=(bz 0).length+(bz s.length).length+s.length:=by rw[lS (by omega:0<128)];simp;omega
   dsimp only;rw[el,show p+((bz 0).length+(bz s.length).length+s.length)=p+(bz 0).length+(bz s.length).length+s.length from by omega];refine⟨?_,d2,d3⟩;unfold tb;rw[a1];simp only[oK,if_true];unfold Cq;rw[if_neg (by omega),c1];simp only[oK];rw[if_neg (by omega),d1];simp only[oK];rw[if_neg hc,if_neg (by simpa using hf)]
  ·rw[if_neg hf]at h ⊢;have hle:=M' s ws 0;obtain⟨_,hg⟩:=zly ws 0 s hf;obtain⟨a1,a2,a3⟩:=DD (by omega) h;refine⟨?_,a2,a3⟩;unfold tb;rw[a1];show(if ck s ws 0=0 then _ else if ws.length<ck s ws 0 then _ else if 0≤eu (cls kind) 0 (ws.getD (ck s ws 0 - 1) [])then _ else amJ (ws.getD (ck s ws 0 - 1) [],_,ws))=_;have eg:ws.getD (ck s ws 0 - 1) []=s:=by rw[List.getD_eq_getElem?_getD];rw[Nat.sub_zero]at hg;rw[hg];rfl
   rw[if_neg hf,if_neg (by omega),eg,if_neg hc]
 refine⟨?_,key.2⟩;unfold mn;rw[key.1];exact if_pos hl
end Go.AM
namespace Go.AM
theorem zrb{e:Int}(h : -1000≤e∧e≤1000):jP (jC e)=e:=by
 unfold jP jC;by_cases h1:e<0
 ·rw[if_pos h1,if_pos (by omega)];omega
 ·rw[if_neg h1,if_neg (by omega)];omega
theorem z4k{b r:List UInt8}{p:Nat}{d:az}(h:de d)(h0:fy d=0)(hb:b.drop p=oU d++r):Cr b p = .ok (d,p+(oU d).length)∧b.drop (p+(oU d).length)=r∧p+(oU d).length≤b.length:=by
 have he:=zij h h0;have hz:=zke he;unfold oU at hb ⊢;rw[alK]at hb;obtain⟨a1,a2,a3⟩:=DD (by split<;>omega) hb;obtain⟨c1,c2,c3⟩:=DD (by have:=h.2.1;omega) a2;rw[ai3,←al1];refine⟨?_,c2,c3⟩;unfold Cr;rw[a1];simp only[oK];rw[c1];simp only[oK];have e1:(decide ((if d.1=true then 2*jC d.2.2+1 else 2*jC d.2.2) % 2=1),((d.2.1.toNat:Nat):Int),jP ((if d.1=true then 2*jC d.2.2+1 else 2*jC d.2.2) / 2))=d:=by
  obtain⟨g,k,e⟩:=d;dsimp only at he hz ⊢;have hk:((k.toNat:Nat):Int)=k:=by have:=h.2.1;dsimp only at this;omega
  rw[hk];cases g with
  |true=>rw[if_pos rfl,decide_eq_true (by omega),show(2*jC e+1) / 2=jC e from by omega,zrb he]
  |false=>rw[if_neg (by decide),decide_eq_false (by omega),show 2*jC e / 2=jC e from by omega,zrb he]
 rw[e1,if_pos h0]
theorem zwg{b:List UInt8}:∀(vs:List az)(p:Nat)(r:List UInt8),(∀d∈vs,de d∧fy d=0)→p≤b.length→b.drop p=gS vs++r→yB b vs.length p = .ok (vs,p+(gS vs).length)∧b.drop (p+(gS vs).length)=r∧p+(gS vs).length≤b.length
 |[],p,r,h,hp,hb=>⟨rfl,hb,hp⟩
 |d::vs,p,r,h,hp,hb=>by
  have hb:b.drop p=oU d++(gS vs++r):=by rw[hb];simp[gS]
  obtain⟨a1,a2,a3⟩:=z4k (h d (by simp)).1 (h d (by simp)).2 hb;obtain⟨c1,c2,c3⟩:=zwg vs _ r (fun x hx=>h x (by simp[hx])) a3 a2;have el:(gS (d::vs)).length=(oU d).length+(gS vs).length:=by simp[gS]
  rw[el,←al1];refine⟨?_,c2,c3⟩;rw[ai0,yB,a1];simp only[oK];rw[c1];rfl
theorem zoy{c:Int}{s:List UInt8}(h:s.all (cls c)=true):¬0≤eu (cls c) 0 s:=fun h2=>(Fl (cls c) 0 s).1 h2 h
theorem zjo{t:ah}(h:dm t=true):(1≤t.1.length∧t.1.length≤64∧t.1.all (cls 2)=true)∧t.2.length≤100∧t.2.all (cls 3)=true:=by unfold dm at h;simp only[aiX,beq_iff_eq]at h;have h1:=kL h.1;have h2:=kL h.2;exact⟨⟨by omega,by omega,h1.2.2⟩,by omega,h2.2.2⟩
def WsI(ws:List (List UInt8)):Prop:=ws.Nodup∧∀s∈ws,s.length≤200
theorem WsI.put{ws:List (List UInt8)}(h:WsI ws){s:List UInt8}(hs:s.length≤200):WsI (cl ws s).2:=by
 refine⟨zs7 h.1 s,?_⟩;unfold cl;split
 ·intro w hw;rcases List.mem_append.1 hw with h1|h1
  ·exact h.2 w h1
  ·rw[ame.1 h1];exact hs
 ·exact h.2
theorem zp6{l:List ah}{x:ah}{r:List ah}(h:dt (l++x::r)):¬ ∃t,l.getLast? = some t∧iB t x=false:=by
 rintro ⟨t,h1,h2⟩
 have hm:t∈l:=List.mem_of_getLast? h1;have:=(List.pairwise_append.1 h).2.2 t hm x (by simp);rw[h2]at this;cases this
theorem zrc{b:List UInt8}:∀(ts l:List ah)(ws:List (List UInt8))(p:Nat)(r:List UInt8),(∀t∈ts,dm t=true)→dt (l++ts)→ws.length+2*ts.length<65536→p≤b.length→b.drop p=(ey ws ts).1++r →
 p9 b ts.length l ws p = .ok (l++ts,p+(ey ws ts).1.length,(ey ws ts).2)∧b.drop (p+(ey ws ts).1.length)=r∧p+(ey ws ts).1.length≤b.length
 |[],l,ws,p,r,h,hs,hw,hp,hb=>⟨by simp[p9,ey],hb,hp⟩
 |t::ts,l,ws,p,r,h,hs,hw,hp,hb=>by
  simp only[ai0]at hw;obtain⟨⟨g1,g2,g3⟩,g4,g5⟩:=zjo (h t (by simp));have d1:=oM (ws:=ws) (s:=t.1) (by omega) (by omega);have d2:=oM (ws:=(cl ws t.1).2) (s:=t.2) (by omega) (by omega);have hb:b.drop p=(cl ws t.1).1++((cl (cl ws t.1).2 t.2).1++((ey (cl (cl ws t.1).2 t.2).2 ts).1++r)):=by rw[hb];simp[ey]
  obtain⟨a1,a2,a3⟩:=zox (lo:=1) (hi:=64) (kind:=2) (e:=19) ⟨g1,g2⟩ (by omega) (zoy g3) (by omega) hp hb;obtain⟨c1,c2,c3⟩:=zox (lo:=0) (hi:=100) (kind:=3) (e:=19) ⟨by omega,g4⟩ (by omega) (zoy g5) (by omega) a3 a2;obtain⟨e1,e2,e3⟩:=zrc ts (l++[t]) _ _ r (fun x hx=>h x (by simp[hx])) (by simpa using hs) (by omega) c3 c2;have el:(ey ws (t::ts)).1.length=(cl ws t.1).1.length+(cl (cl ws t.1).2 t.2).1.length+(ey (cl (cl ws t.1).2 t.2).2 ts).1.length:=by simp[ey];omega
  rw[el,←al1,←al1];refine⟨?_,e2,e3⟩;rw[ai0,p9,a1];simp only[oK];rw[c1];simp only[oK];rw[if_neg (zp6 hs)];rw[e1];simp[ey]
end Go.AM
namespace Go.AM
theorem z3g{b r:List UInt8}{p:Nat}{k:Int}(hk:1≤k∧k≤5)(h:b.drop p=[ai1 (aiS .u8 k).toNat]++r):wj b p = .ok (k.toNat,p+1)∧b.drop (p+1)=r∧p+1≤b.length:=by obtain⟨j,rfl⟩:=Int.eq_ofNat_of_zero_le (show 0≤k by omega);rw[yd,amE (by omega),Int.toNat_natCast]at h;obtain⟨a1,a2⟩:=zfk (x:=j) h (by omega);have a3:=(Ln (s:=[ai1 j]) h (by simp)).1;refine⟨?_,a2,a3⟩;unfold wj;rw[a1];simp only[oK];rw[if_pos (by omega),Int.toNat_natCast]
theorem z3h{b:List UInt8}{m:au}(hm:iv (eK m)){ws:List (List UInt8)}{p:Nat}{r:List UInt8}(hw:ws.length+65<65536)(hp:p≤b.length)(h:b.drop p=(iK ws m).1++r) :
 zN b ws p = .ok (m,p+(iK ws m).1.length,(iK ws m).2)∧b.drop (p+(iK ws m).1.length)=r∧p+(iK ws m).1.length≤b.length:=by
 obtain⟨nm,kd,vs,rt,tg,tm⟩:=m;obtain⟨i1,i2,i3,i4,i5,i6⟩:=hm;dsimp only[eK]at i1 i2 i3 i4 i5 i6;have n1:=uf i1;have n2:nm.all (cls 1)=true:=by rw[KQ]at i1;simp only[aiX]at i1;exact i1.1
 have k1:1≤kd∧kd≤5:=by unfold iD at i2;simpa using i2
 have r1:1≤rt∧rt≤1000000∧(kd=2→rt=1000000):=by unfold ic at i4;simp only[aiX,decide_eq_true_eq,amq,al2,beq_eq_false_iff_ne,ne_eq,beq_iff_eq]at i4;exact⟨i4.1,i4.2.1,fun h=>i4.2.2.resolve_left fun h2=>h2 h⟩
 have t1:0≤tm∧tm≤1099511627776:=by unfold iE at i6;simpa using i6
 have d1:=oM (ws:=ws) (s:=nm) (by omega) (by omega);have hb:b.drop p=(cl ws nm).1++([ai1 (aiS .u8 kd).toNat]++(bz vs.length++(gS vs++(bz rt.toNat++(bz tg.length++((ey (cl ws nm).2 tg).1++(bz tm.toNat++r))))))):=by rw[h];simp[iK]
 obtain⟨a1,a2,a3⟩:=zox (lo:=1) (hi:=200) (kind:=1) (e:=15) n1 (by omega) (zoy n2) (by omega) hp hb;obtain⟨b1,b2,b3⟩:=z3g k1 a2;obtain⟨c1,c2,c3⟩:=Ns (lo:=1) (hi:=64) (e:=17) i3.2 (by decide) b2;obtain⟨e1,e2,e3⟩:=zwg vs _ _ i3.1 c3 c2;obtain⟨f1,f2,f3⟩:=Ns (lo:=if kd.toNat=2 then 1000000 else 1) (hi:=1000000) (e:=18) (by
  by_cases h2:kd=2
  ·have:=r1.2.2 h2;rw[if_pos (by omega)];omega
  ·rw[if_neg (by omega)];omega) (by decide) e2
 obtain⟨g1,g2,g3⟩:=Ns (lo:=0) (hi:=32) (e:=19) ⟨by omega,i5.2.1⟩ (by decide) f2;have yG:=i5.2.1;obtain⟨h1,h2,h3⟩:=zrc tg [] (cl ws nm).2 _ _ i5.1 (by simpa using i5.2.2) (by omega) g3 g2;obtain⟨j1,j2,j3⟩:=Ns (lo:=0) (hi:=1099511627776) (e:=20) (by omega) (by decide) h2;rw[ai8]at h1;have el:p+(iK ws (nm,kd,vs,rt,tg,tm)).1.length=p+(cl ws nm).1.length+1+(bz vs.length).length+(gS vs).length+(bz rt.toNat).length+(bz tg.length).length+(ey (cl ws nm).2 tg).1.length+(bz tm.toNat).length:=by simp only[iK,ai3,ai0,alG];omega
 rw[el];refine⟨?_,j2,j3⟩;have s2:=ud (k:=fun z:Cs=>wj b z.2.1) a1 b1;have s3:=ud (k:=fun z:Cs×NN=>kX b 1 64 17 z.2.2) s2 c1;have s4:=ud (k:=fun z:(Cs×NN)×NN=>yB b z.2.1 z.2.2) s3 e1;have s5:=ud (k:=fun z:((Cs×NN)×NN)×(List az×Nat)=>kX b (if z.1.1.2.1=2 then 1000000 else 1) 1000000 18 z.2.2) s4 f1;have s6:=ud (k:=fun z:(((Cs×NN)×NN)×(List az×Nat))×NN=>kX b 0 32 19 z.2.2) s5 g1;have s7:=ud (k:=fun z:((((Cs×NN)×NN)×(List az×Nat))×NN)×NN=>p9 b z.2.1 [] z.1.1.1.1.1.2.2 z.2.2) s6 h1;have s8:=ud (k:=fun z:(((((Cs×NN)×NN)×(List az×Nat))×NN)×NN)×(List ah×Nat×List (List UInt8))=>kX b 0 1099511627776 20 z.2.2.1) s7 j1;unfold zN UP;rw[s8];simp only[oK];rw[show((kd.toNat:Nat):Int)=kd from by omega,show((rt.toNat:Nat):Int)=rt from by omega,show((tm.toNat:Nat):Int)=tm from by omega];rfl
theorem zs8{ws:List (List UInt8)}{m:au}(h:m.1.length≤200)(ht:∀t∈m.2.2.2.2.1,t.1.length≤200∧t.2.length≤200)(hw:ws.length+1+2*m.2.2.2.2.1.length<65536):(iK ws m).2.length≤ws.length+1+2*m.2.2.2.2.1.length:=by have d1:=oM (ws:=ws) (s:=m.1) h (by omega);have:=(Na m.2.2.2.2.1 (cl ws m.1).2 ht (by omega)).2;show(ey (cl ws m.1).2 m.2.2.2.2.1).2.length≤_;omega
theorem zwh{ws:List (List UInt8)}{m:au}(hm:iv (eK m))(hw:ws.length+65<65536):(iK ws m).2.length≤ws.length+65:=by have n1:=uf hm.nm;have hl:=hm.tg.2.1;dsimp only[eK]at n1 hl;have:=zs8 (ws:=ws) (m:=m) (by omega) (fun t ht=>by obtain⟨⟨_,g2,_⟩,g4,_⟩:=zjo (hm.tg.1 t ht);omega) (by omega);omega
theorem zrd{b:List UInt8}:∀(l:List au)(ws:List (List UInt8))(p:Nat)(r:List UInt8),(∀m∈l,iv (eK m))→ws.length+65*l.length<65536→p≤b.length→b.drop p=kT ws l++r→p_ b l.length ws p = .ok (l,p+(kT ws l).length)∧b.drop (p+(kT ws l).length)=r∧p+(kT ws l).length≤b.length
 |[],ws,p,r,h,hw,hp,hb=>⟨rfl,hb,hp⟩
 |m::l,ws,p,r,h,hw,hp,hb=>by
  simp only[ai0]at hw;have hb:b.drop p=(iK ws m).1++(kT (iK ws m).2 l++r):=by rw[hb];simp[kT]
  obtain⟨a1,a2,a3⟩:=z3h (h m (by simp)) (by omega) hp hb;have:=zwh (ws:=ws) (h m (by simp)) (by omega);obtain⟨c1,c2,c3⟩:=zrd l (iK ws m).2 _ r (fun x hx=>h x (by simp[hx])) (by omega) a3 a2;have el:(kT ws (m::l)).length=(iK ws m).1.length+(kT (iK ws m).2 l).length:=by simp[kT]
  rw[el,←al1];refine⟨?_,c2,c3⟩;rw[ai0,p_,a1];simp only[oK];rw[c1];rfl
def gg(l:List au):List UInt8:=bz l.length++kT [] l
theorem z3i{l:List au}(hl:l.length≤1000)(h:∀m∈l,iv (eK m)):wk (gg l) = .ok l:=by
 obtain⟨a1,a2,a3⟩:=DD (b:=gg l) (p:=0) (x:=l.length) (r:=kT [] l) (by omega) rfl;obtain⟨c1,c2,c3⟩:=zrd l [] _ [] h (by simp;omega) a3 (by rw[a2,ak9]);have el:0+(bz l.length).length+(kT [] l).length=(gg l).length:=by simp[gg]
 unfold wk;rw[a1];simp only[oK];rw[if_neg (by omega),c1];simp only[oK];rw[if_neg (by omega)]
end Go.AM
namespace Go.AM
def rT(b:List UInt8):Nat→Nat→Nat→FE (Option NN)
 |0,_,_ => .ok none
 | j + 1,k,v=>match b[k+3]? with
  |none => .ok none
  |some x=>if k=2∧128≤x.toNat then .error (12,((k+3:Nat):Int))else if 128≤x.toNat then rT b j (k+1) (v+x.toNat % 128*128 ^ k)else if x.toNat=0∧0<k then .error (21,((k+3:Nat):Int))
   else if 1048576<v+x.toNat*128 ^ k then .error (12,((k+3:Nat):Int))else .ok (some (k+4,v+x.toNat*128 ^ k))
def td(b:List UInt8)(i:Nat)(w e:Nat)(r:FE (Option NN)):FE (Option NN):=match b[i]? with
 |none => .ok none
 |some x=>if x.toNat≠w then .error ((e:Int),(i:Int))else r
def uE(b:List UInt8):FE (Option NN):=td b 0 77 22 (td b 1 71 22 (td b 2 1 23 (rT b 3 0 0)))
section
variable {X:Type} {Q:Option X→Prop} {n:Nat} {b:List UInt8}
theorem z3j{v k x:Nat}(hk:k≤2)(hv:v<128 ^ k)(hx:x<256):bw .or .i64 (v:Int) (gk .i64 (((x:Int)).tmod 128) ((7*k:Nat):Int))=((v+x % 128*128 ^ k:Nat):Int)∧v+x % 128*128 ^ k<128 ^ (k+1):=by
 have hm:x % 128<128:=Nat.mod_lt _ (by decide);have e4:((x:Int)).tmod 128=((x % 128:Nat):Int):=rfl;have e2:(128:Nat) ^ k=2 ^ (7*k):=by rw[Nat.pow_mul]
 have bo:v+x % 128*128 ^ k<128 ^ (k+1):=by have:x % 128*128 ^ k≤127*128 ^ k:=ak5 _ (by omega);rw[alT];omega
 refine⟨?_,bo⟩;have hs:gk .i64 ((x % 128:Nat):Int) ((7*k:Nat):Int)=((x % 128*128 ^ k:Nat):Int):=by
  have xC:k=0∨k=1∨k=2:=by omega
  unfold gk;have Lk:min (((7*k:Nat):Int)).toNat (amD .i64)=7*k:=by have:amD .i64=64:=rfl;rw[this];omega
  rw[Lk];generalize x % 128=q at hm;rcases xC with rfl|rfl|rfl
  ·rw[zh (by omega)];omega
  ·rw[show(2:Int) ^ (7*1)=128 from rfl,zh (by omega),show(128:Nat) ^ 1=128 from rfl];omega
  ·rw[show(2:Int) ^ (7*2)=16384 from rfl,zh (by omega),show(128:Nat) ^ 2=16384 from rfl];omega
 have hpk:128 ^ k≤16384:=by
  have:128 ^ k≤128 ^ 2:=amr (by decide) hk;have e:(128:Nat) ^ 2=16384:=by decide
  omega
 have hy:x % 128*128 ^ k<2097152:=by have:x % 128*128 ^ k≤127*128 ^ k:=ak5 _ (by omega);omega
 rw[e4,hs];have hz:v|||x % 128*128 ^ k<2097152:=Nat.or_lt_two_pow (n:=21) (by omega) hy;show aiS .i64 (((ak1 64 (v:Int)|||ak1 64 ((x % 128*128 ^ k:Nat):Int)).toNat:Nat):Int)=_;rw[BitVec.toNat_or,alF,alF,show((v:Int) % ((2 ^ 64:Nat):Int)).toNat=v from by omega,show(((x % 128*128 ^ k:Nat):Int) % ((2 ^ 64:Nat):Int)).toNat=x % 128*128 ^ k from by omega,zh (by omega)];congr 1;have h:=ams (i:=7*k) (b:=v) (by rw[←e2];exact hv) (x % 128);rw[Nat.shiftLeft_eq,←e2]at h;rw[Nat.or_comm,←h,Nat.add_comm]
theorem UQ{k3:Int→Int→Option X}{kr:Int→Int→Int→Int→Option X}{f0 g0:Int}(hb:b.length≤1000000000){r0:FE (Option NN)}(h3:r0 = .ok none→Q (k3 f0 g0))(hr:∀a l,r0 = .ok (some (a,l))→Q (kr (a:Int) (l:Int) 0 0))(hE:∀e,r0 = .error e→Q (kr 0 0 e.1 e.2)) :
 ∀(j m k v:Nat),j+k=3→0<j→j<m→v<128 ^ k→r0=rT b j k v→Q (F.zq.yN n k3 kr m b (v:Int) ((k+3:Nat):Int) f0 g0)
 |0,m,k,v,h1,h2,h4,hv,hR=>by omega
 |j+1,0,k,v,h1,h2,h4,hv,hR=>by omega
 | j + 1,m + 1,k,v,h1,h2,h4,hv,hR=>by
  show Q (F.zq.yN.step n (F.zq.yN n k3 kr m) k3 kr b (v:Int) ((k+3:Nat):Int) f0 g0);unfold F.zq.yN.step;rw[rT]at hR;by_cases hl:k+3<b.length
  ·rw[zd (by omega),qh hl,za];rw[ai5 hl]at hR;generalize hx:b[k+3]'hl=x at hR ⊢;have wG:=x.toNat_lt;have hR:r0=if k=2∧128≤x.toNat then .error (12,((k+3:Nat):Int))else if 128≤x.toNat then rT b j (k+1) (v+x.toNat % 128*128 ^ k)else if x.toNat=0∧0<k then .error (21,((k+3:Nat):Int))else if 1048576<v+x.toNat*128 ^ k then .error (12,((k+3:Nat):Int))else .ok (some (k+4,v+x.toNat*128 ^ k)):=hR
   have e1:aiS .i64 (x.toNat:Int)=(x.toNat:Int):=zh (by omega);have e2:aiS .i64 ((7:Int)*(aiS .i64 (((k+3:Nat):Int) - (3:Int))))=((7*k:Nat):Int):=by rw[zh (x:=((k+3:Nat):Int) - 3) (by omega),zh (by omega)];omega
   have e3:decide (((7*k:Nat):Int)<0)=false:=decide_eq_false (by omega);obtain⟨b1,b2⟩:=z3j (k:=k) (x:=x.toNat) (by omega) hv (by omega);rw[e1,e2,e3,b1];have low:¬128≤x.toNat→Q (bif (x.toNat:Int)==0 then bif decide (((k+3:Nat):Int)>3)then kr 0 0 21 ((k+3:Nat):Int)else bif decide (((v+x.toNat % 128*128 ^ k:Nat):Int)>1048576)then kr 0 0 12 ((k+3:Nat):Int)else kr (aiS .i64 (((k+3:Nat):Int)+1)) ((v+x.toNat % 128*128 ^ k:Nat):Int) 0 0 else
    bif decide (((v+x.toNat % 128*128 ^ k:Nat):Int)>1048576)then kr 0 0 12 ((k+3:Nat):Int)else kr (aiS .i64 (((k+3:Nat):Int)+1)) ((v+x.toNat % 128*128 ^ k:Nat):Int) 0 0):=fun hg=>by
    rw[if_neg (by omega),if_neg hg]at hR;rw[amE (by omega)]
    have big:¬(x.toNat=0∧0<k)→Q (bif decide (((v+x.toNat*128 ^ k:Nat):Int)>1048576)then kr 0 0 12 ((k+3:Nat):Int)else kr (aiS .i64 (((k+3:Nat):Int)+1)) ((v+x.toNat*128 ^ k:Nat):Int) 0 0):=fun hz=>by
     rw[if_neg hz]at hR;by_cases ly:1048576<v+x.toNat*128 ^ k
     ·rw[zd (by omega)];rw[if_pos ly]at hR;exact hE _ hR
     ·rw[ze (by omega),zh (by omega)];rw[if_neg ly]at hR;exact hr _ _ hR
    by_cases hz:x.toNat=0
    ·rw[show((x.toNat:Int)==0)=true from by simp[hz],cond_true];by_cases hk:0<k
     ·rw[zd (by omega)];rw[if_pos ⟨hz,hk⟩]at hR;exact hE _ hR
     ·rw[ze (by omega)];exact big (by omega)
    ·rw[show((x.toNat:Int)==0)=false from by simp[hz],cond_false];exact big (by omega)
   by_cases h5:k=2
   ·rw[show(((k+3:Nat):Int)==5)=true from by simp[h5],cond_true];by_cases hg:128≤x.toNat
    ·rw[zd (by omega)];rw[if_pos ⟨h5,hg⟩]at hR;exact hE _ hR
    ·rw[ze (by omega),cond_false,ze (by omega)];exact low hg
   ·rw[show(((k+3:Nat):Int)==5)=false from by simp;omega,cond_false,cond_false];by_cases hg:128≤x.toNat
    ·rw[zd (by omega),zi (by omega)];rw[if_neg (by omega),if_pos hg]at hR;exact UQ hb h3 hr hE j m (k+1) _ (by omega) (by omega) (by omega) b2 hR
    ·rw[ze (by omega)];exact low hg
  ·rw[ze (by omega)];rw[al8 (by omega)]at hR;exact h3 hR
theorem zkf{k0:List UInt8→Int→Int→Option X}{kr:Int→Int→Int→Int→Option X}{t:Int×Int×Int×Int×Int×Int×Unit}{f0 g0:Int}{i w e:Nat}{y r:FE (Option NN)}{z:Option X}(hw:w<256)(hy:td b i w e r=y)
 (h0:y = .ok none→Q (kr 0 0 0 0)) (hE:∀e,y = .error e→Q (kr 0 0 e.1 e.2)) (hk:i<b.length→y=r→Q z) :
 Q (bif decide ((i:Int)≥(b.length:Int))then kr 0 0 0 0 else(idx b (i:Int)).bind fun x=>bif !((x.toNat:Int)==(w:Int))then kr 0 0 (e:Int) (i:Int)else z):=by
 unfold td at hy;by_cases hl:i<b.length
 ·rw[ze (by omega),qh hl,za];rw[ai5 hl]at hy;generalize b[i]'hl=x at hy ⊢;have hy:(if x.toNat≠w then .error ((e:Int),(i:Int))else r)=y:=hy;by_cases hx:x.toNat=w
  ·rw[show(!((x.toNat:Int)==(w:Int)))=false from by simp[hx],cond_false];rw[if_neg (by simpa using hx)]at hy;exact hk hl hy.symm
  ·rw[show(!((x.toNat:Int)==(w:Int)))=true from by simp;omega,cond_true];rw[if_pos hx]at hy;exact hE _ hy.symm
 ·rw[zd (by omega)];rw[al8 (by omega)]at hy;exact h0 hy.symm
abbrev Nt:=Int×Int×(Int×Int×Unit)×Unit
def hdO(r:FE (Option NN)):Nt:=match r with
 |.ok none=>(0,0,(0,0,()),())
 |.ok (some v)=>((v.1:Int),(v.2:Int),(0,0,()),())
 |.error e=>(0,0,(e.1,e.2,()),())
theorem z4l(hn:2000≤n)(hb:b.length≤1000000000):F.zq n b=some (hdO (uE b)):=by
 unfold F.zq
 have z:∀m,4≤m→F.zq.L2 n (fun apk fJ kP=>F.zq.yN n (fun _ _=>some ((0:Int),(0:Int),((0:Int),(0:Int),()),())) (fun apl KH qZ Lo=>some (apl,KH,(qZ,Lo,()),())) n apk 0 3 fJ kP)
  (fun apm apn yz Lp=>some (apm,apn,(yz,Lp,()),())) m b (77,22,71,22,1,23,()) 0 0 0=some (hdO (uE b)):=by
  intro m hm;obtain⟨m,rfl⟩:∃q,m=q+4:=⟨m - 4,by omega⟩
  let Q:Option Nt→Prop:=fun r=>r=some (hdO (uE b))
  have h0:∀y:FE (Option NN),uE b=y→y = .ok none→Q (some ((0:Int),(0:Int),((0:Int),(0:Int),()),())):=fun y h1 h2=>by show _=_;rw[h1,h2];rfl
  have hE:∀y:FE (Option NN),uE b=y→∀e,y = .error e→Q (some ((0:Int),(0:Int),(e.1,e.2,()),())):=fun y h1 e h2=>by show _=_;rw[h1,h2];rfl
  have l0:∀(k0:List UInt8→Int→Int→Option Nt)(kr:Int→Int→Int→Int→Option Nt)(m:Nat)(i:Int)(f g:Int),F.zq.L2 n k0 kr (m+1) b (77,22,71,22,1,23,()) i f g=F.zq.L2.step n (F.zq.L2 n k0 kr m) k0 kr b (77,22,71,22,1,23,()) i f g:=fun _ _ _ _ _ _=>rfl;show Q _;rw[l0];unfold F.zq.L2.step;rw[show decide ((0:Int)<3)=true from rfl,cond_true,show((0:Int)==0)=true from rfl,cond_true];refine zkf (i:=0) (w:=77) (e:=22) (t:=(77,22,71,22,1,23,())) (f0:=0) (g0:=0) (k0:=fun _ _ _=>none) (kr:=fun a b c d=>some (a,b,(c,d,()),())) (by decide) rfl (h0 _ rfl) (hE _ rfl) fun ER xM => ?_;rw[show aiS .i64 ((0:Int)+1)=1 from rfl,l0];unfold F.zq.L2.step;rw[show decide ((1:Int)<3)=true from rfl,cond_true,show((1:Int)==0)=false from rfl,cond_false,show((1:Int)==1)=true from rfl,cond_true];refine zkf (i:=1) (w:=71) (e:=22) (t:=(77,22,71,22,1,23,())) (f0:=0) (g0:=0) (k0:=fun _ _ _=>none) (kr:=fun a b c d=>some (a,b,(c,d,()),())) (by decide) rfl (h0 _ xM) (hE _ xM) fun ni gV => ?_;rw[show aiS .i64 ((1:Int)+1)=2 from rfl,l0];unfold F.zq.L2.step;rw[show decide ((2:Int)<3)=true from rfl,cond_true,show((2:Int)==0)=false from rfl,cond_false,show((2:Int)==1)=false from rfl,cond_false,show((2:Int)==2)=true from rfl,cond_true];refine zkf (i:=2) (w:=1) (e:=23) (t:=(77,22,71,22,1,23,())) (f0:=0) (g0:=0) (k0:=fun _ _ _=>none) (kr:=fun a b c d=>some (a,b,(c,d,()),())) (by decide) rfl (h0 _ (xM.trans gV)) (hE _ (xM.trans gV)) fun hl3 hy3 => ?_;rw[show aiS .i64 ((2:Int)+1)=3 from rfl,l0];unfold F.zq.L2.step;rw[show decide ((3:Int)<3)=false from rfl,cond_false];have hR:=(xM.trans gV).trans hy3;exact UQ (Q:=Q) hb (h0 _ hR) (fun a l h=>by show _=_;rw[show uE b = .ok (some (a,l))from hR.trans h];rfl) (hE _ hR) 3 n 0 0 rfl (by omega) (by omega) (by decide) rfl
 exact z n (by omega)
end
end Go.AM
namespace Go.AM
section
variable {n:Nat} {b:List UInt8}
theorem z3k(hn:2000≤n)(hb:b.length≤100000000)(hm:b.length<n):F.wM n b=some (if b.length<4 then 13 else if b.drop (b.length - 4)=oP (b.take (b.length - 4))then 0 else 24):=by
 unfold F.wM;rw[zh (x:=(b.length:Int) - 4) (by omega)];by_cases h:b.length<4
 ·rw[zd (by omega),if_pos h]
 ·have e4:(b.length:Int) - 4=((b.length - 4:Nat):Int):=by omega
  have s0:=zv b 0 (b.length - 4) (by omega) (by omega);have e0:((0:Nat):Int)=0:=rfl;rw[e0,alu]at s0;rw[ze (by omega),if_neg h,e4,rN (by omega),za,s0,za,zk9 n (by omega) _ (by simp;omega) (by simp;omega),za,zhm,za];unfold F.xR;by_cases he:b.drop (b.length - 4)=oP (b.take (b.length - 4))
  ·rw[if_pos he,he];simp
  ·have e:(b.drop (b.length - 4)==oP (b.take (b.length - 4)))=false:=beq_eq_false_iff_ne.2 he;rw[if_neg he,e];rfl
def Nu(b:List UInt8):FE (List au):=(uE b).bind fun o=>match o with
 |none => .error (13,(b.length:Int))
 | some v=>if b.length<v.1+v.2+4 then .error (13,(b.length:Int))else if v.1+v.2+4<b.length then .error (11,((v.1+v.2+4:Nat):Int))
  else if b.drop (b.length - 4)=oP (b.take (b.length - 4))then(match wk ((b.take (v.1+v.2)).drop v.1)with
   |.ok l => .ok l
   |.error e => .error (e.1,aiS .i64 (e.2+(v.1:Int))))else .error (24,((v.1+v.2:Nat):Int))
def dfO(r:FE (List au)):List au×(Int×Int×Unit)×Unit:=match r with
 |.ok l=>(l,(0,0,()),())
 |.error e=>([],(e.1,e.2,()),())
theorem zre:∀(j k v:Nat)(z:NN),j+k=3→v<128 ^ k→rT b j k v = .ok (some z)→∃x,z.2=v+x*128 ^ k∧b.drop (k+3)=bz x++b.drop z.1∧k+3<z.1∧z.1≤b.length∧z.1≤6∧z.2≤1048576∧(0<k→0<x)
 |0,k,v,z,h1,hv,h=>by rw[rT]at h;cases h
 | j + 1,k,v,z,h1,hv,h=>by
  rw[rT]at h;by_cases hl:k+3<b.length
  ·rw[ai5 hl]at h;have hd:=ai9 hl;generalize b[k+3]'hl=x at h hd;have wG:=x.toNat_lt;have h:(if k=2∧128≤x.toNat then .error (12,((k+3:Nat):Int))else if 128≤x.toNat then rT b j (k+1) (v+x.toNat % 128*128 ^ k)else if x.toNat=0∧0<k then .error (21,((k+3:Nat):Int))else if 1048576<v+x.toNat*128 ^ k then .error (12,((k+3:Nat):Int))else .ok (some (k+4,v+x.toNat*128 ^ k)):FE (Option NN)) = .ok (some z):=h;by_cases c1:k=2∧128≤x.toNat
   ·rw[if_pos c1]at h;cases h
   rw[if_neg c1]at h;by_cases c2:128≤x.toNat
   ·rw[if_pos c2]at h;have hm:x.toNat % 128*128 ^ k≤127*128 ^ k:=ak5 _ (by omega);obtain⟨y,q1,q2,q3,q4,q5,q6,q7⟩:=zre j (k+1) _ z (by omega) (by rw[alT];omega) h;have hy:=q7 (by omega);refine⟨x.toNat % 128+128*y,?_,?_,by omega,q4,q5,q6,fun _=>by omega⟩
    ·rw[q1,alT,Nat.add_mul,amh (128 ^ k) 128,←Nat.mul_assoc,amh y 128,al1]
    ·rw[yO (by omega),show(x.toNat % 128+128*y) % 128+128=x.toNat from by omega,show(x.toNat % 128+128*y) / 128=y from by omega,hd,amk,List.cons_append,←q2]
   ·rw[if_neg c2]at h;by_cases c3:x.toNat=0∧0<k
    ·rw[if_pos c3]at h;cases h
    rw[if_neg c3]at h;by_cases c4:1048576<v+x.toNat*128 ^ k
    ·rw[if_pos c4]at h;cases h
    rw[if_neg c4]at h;obtain rfl:(k+4,v+x.toNat*128 ^ k)=z:=by simpa using h
    refine⟨x.toNat,rfl,?_,by omega,by omega,by omega,by omega,fun _=>by omega⟩;rw[lS (by omega),hd,amk];rfl
  ·rw[al8 (by omega)]at h;cases h
theorem zil{i w e:Nat}{r:FE (Option NN)}{z:NN}(h:td b i w e r = .ok (some z)):b[i]? = some (ai1 w)∧r = .ok (some z):=by
 unfold td at h;cases hx:b[i]? with
 |none=>rw[hx]at h;cases h
 |some x =>
  rw[hx]at h;have h:(if x.toNat≠w then .error ((e:Int),(i:Int))else r:FE (Option NN)) = .ok (some z):=h;by_cases hw:x.toNat=w
  ·rw[if_neg (by simpa using hw)]at h;exact⟨by rw[←hw,amk],h⟩
  ·rw[if_pos hw]at h;cases h
theorem z3l{z:NN}(h:uE b = .ok (some z)):b=[77,71,1]++(bz z.2++b.drop z.1)∧4≤z.1∧z.1≤6∧z.1≤b.length∧z.2≤1048576:=by
 unfold uE at h;obtain⟨a1,h⟩:=zil h;obtain⟨a2,h⟩:=zil h;obtain⟨a3,h⟩:=zil h;obtain⟨x,q1,q2,q3,q4,q5,q6,_⟩:=zre 3 0 0 z rfl (by decide) h;have:z.2=x:=by omega
 subst this;refine⟨?_,by omega,q5,q4,q6⟩;have h3:3<b.length:=by omega
 rw[←q2]
 match b,a1,a2,a3 with
 |x::y::w::r,a1,a2,a3 =>
  obtain rfl:x=77:=by simpa using a1
  obtain rfl:y=71:=by simpa using a2
  obtain rfl:w=1:=by simpa using a3
  rfl
theorem zrf:∀(j k v x:Nat)(r:List UInt8),j+k=3→0<j→x<128 ^ j→(0<k→0<x)→v+x*128 ^ k≤1048576→b.drop (k+3)=bz x++r→rT b j k v = .ok (some (k+3+(bz x).length,v+x*128 ^ k))
 |0,k,v,x,r,h1,h2,h3,h4,h5,h=>by omega
 | j + 1,k,v,x,r,h1,h2,h3,h4,h5,h=>by
  rw[rT];by_cases hx:x<128
  ·rw[lS hx]at h ⊢;obtain⟨l1,_⟩:=Ln h (by simp);have hl:k+3<b.length:=by simp at l1;omega
   have e:b[k+3]'hl=ai1 x:=by rw[ai9 hl]at h;exact(amv h).1
   rw[ai5 hl,e];show(if k=2∧128≤(ai1 x).toNat then _ else _)=_;rw[show(ai1 x).toNat=x from by simp;omega,if_neg (by omega),if_neg (by omega),if_neg (by omega),if_neg (by omega)];rfl
  ·rw[yO hx]at h ⊢;have h':b.drop (k+3)=[ai1 (x % 128+128)]++(bz (x / 128)++r):=h;obtain⟨l1,l2⟩:=Ln h' (by simp);have hl:k+3<b.length:=by simp at l1;omega
   have e:b[k+3]'hl=ai1 (x % 128+128):=by rw[ai9 hl]at h;exact(amv h).1
   have hj:0<j:=by
    rcases Nat.eq_zero_or_pos j with rfl|hj
    ·omega
    ·exact hj
   rw[ai5 hl,e];show(if k=2∧128≤(ai1 (x % 128+128)).toNat then _ else if 128≤(ai1 (x % 128+128)).toNat then rT b j (k+1) (v+(ai1 (x % 128+128)).toNat % 128*128 ^ k)else _)=_;have ed:x / 128*128 ^ (k+1)+x % 128*128 ^ k=x*128 ^ k:=by rw[alT,amh (128 ^ k) 128,←Nat.mul_assoc,←Nat.add_mul];congr 1;omega
   rw[show(ai1 (x % 128+128)).toNat=x % 128+128 from by simp;omega,if_neg (by omega),if_pos (by omega),show(x % 128+128) % 128=x % 128 from by omega,
    zrf j (k+1) _ (x / 128) r (by omega) hj (by rw[alT]at h3;exact Nat.div_lt_of_lt_mul (by rw[amh];exact h3)) (fun _=>by omega) (by omega) (by rw[←l2];rfl),ai0]
   congr 3
   ·omega
   ·omega
theorem z4m{m:Nat}{r:List UInt8}(hm:m≤1048576)(h:b=[77,71,1]++(bz m++r)):uE b = .ok (some (3+(bz m).length,m)):=by
 have hd:b.drop 3=bz m++r:=by rw[h];rfl
 have e:128 ^ 3=2097152:=by decide
 have hl:=zrf (b:=b) 3 0 0 m r rfl (by decide) (by omega) (fun h=>by omega) (by omega) hd;unfold uE;have m0:∀r,td b 0 77 22 r=r:=fun r=>by unfold td;rw[h];rfl
 have m1:∀r,td b 1 71 22 r=r:=fun r=>by unfold td;rw[h];rfl
 have m2:∀r,td b 2 1 23 r=r:=fun r=>by unfold td;rw[h];rfl
 rw[m0,m1,m2,hl];congr 3;omega
theorem zrg : ∀(j k v:Nat)(e:Int×Int),rT b j k v = .error e→e.1≠0∧0≤e.2∧e.2≤b.length
 |0,k,v,e,h=>by rw[rT]at h;cases h
 | j + 1,k,v,e,h=>by
  rw[rT]at h;by_cases hl:k+3<b.length
  ·rw [ai5 hl]at h;generalize b[k+3]'hl=x at h;have h:(if k=2∧128≤x.toNat then .error (12,((k+3:Nat):Int))else if 128≤x.toNat then rT b j (k+1) (v+x.toNat % 128*128 ^ k)else if x.toNat=0∧0<k then .error (21,((k+3:Nat):Int))else if 1048576<v+x.toNat*128 ^ k then .error (12,((k+3:Nat):Int))else .ok (some (k+4,v+x.toNat*128 ^ k)):FE (Option NN)) = .error e:=h;split at h
   ·cases h;exact⟨(by decide:(12:Int)≠0),by dsimp only;omega,by dsimp only;omega⟩
   ·split at h
    ·exact zrg j _ _ e h
    ·split at h
     ·cases h;exact⟨(by decide:(21:Int)≠0),by dsimp only;omega,by dsimp only;omega⟩
     ·split at h
      ·cases h;exact⟨(by decide:(12:Int)≠0),by dsimp only;omega,by dsimp only;omega⟩
      ·cases h
  ·rw[al8 (by omega)]at h;cases h
theorem zkg{i w e:Nat}{r:FE (Option NN)}{z:Int×Int}(he:e≠0)(h:td b i w e r = .error z):(z.1≠0∧0≤z.2∧z.2≤b.length)∨r = .error z:=by
 unfold td at h;cases hx:b[i]? with
 |none=>rw[hx]at h;cases h
 |some x =>
  rw[hx]at h;have hl:=(ak6.1 hx).1;have h:(if x.toNat≠w then .error ((e:Int),(i:Int))else r:FE (Option NN)) = .error z:=h;split at h
  ·cases h;exact .inl ⟨by dsimp only;omega,by dsimp only;omega,by dsimp only;omega⟩
  ·exact .inr h
theorem z4n{z:Int×Int}(h:uE b = .error z):z.1≠0∧0≤z.2∧z.2≤b.length:=by
 unfold uE at h;rcases zkg (by decide) h with h|h
 ·exact h
 rcases zkg (by decide) h with h|h
 ·exact h
 rcases zkg (by decide) h with h|h
 ·exact h
 exact zrg _ _ _ _ h
end
def NZ{α:Type}(r:FE α):Prop:=∀e,r = .error e→e.1≠0
theorem NZ.ok{α:Type}(v:α):NZ (.ok v:FE α):=fun e h=>by cases h
theorem NZ.err{α:Type}{c d:Int}(h:c≠0):NZ (.error (c,d):FE α):=fun e he=>by cases he;exact h
theorem NZ.bind{α β:Type}{r:FE α}{k:α→FE β}(h:NZ r)(hk:∀v,NZ (k v)):NZ (r.bind k):=by
 cases r with
 |error e=>exact fun e' he=>by cases he;exact h e rfl
 |ok v=>exact hk v
theorem NZ.ite{α:Type}{p:Prop}[Decidable p]{a b:FE α}(h1:p→NZ a)(h2:¬p→NZ b):NZ (if p then a else b):=by
 split
 ·exact h1 (by assumption)
 ·exact h2 (by assumption)
section
variable {b:List UInt8}
theorem zrh(p:Nat):NZ (kW b p):=by
 unfold kW;split
 ·exact .ok _
 ·exact .err (by decide)
theorem z0k:∀j k v p,NZ (Bo b j k v p)
 |0,k,v,p => .err (by decide)
 |j+1,k,v,p=>(zrh p).bind fun x => .ite (fun _ => .err (by decide)) fun _ => .ite (fun _=>z0k j _ _ _) fun _ => .ite (fun _ => .err (by decide)) fun _ => .ok _
theorem zO(p:Nat):NZ (rV b p):=z0k _ _ _ _
theorem Nv{lo hi p:Nat}{e:Int}(he:e≠0):NZ (kX b lo hi e p):=(zO p).bind fun v => .ite (fun _ => .ok _) fun _ => .err he
theorem z3m(k p:Nat):NZ (kV b k p):=.ite (fun _ => .err (by decide)) fun _ => .ok _
theorem zkh{kind e:Int}{lo hi p:Nat}{ws:List (List UInt8)}(he:e≠0):NZ (mn b kind lo hi e ws p):=
 ((zO p).bind fun v => .ite (fun _ => .ite (fun _ => .err (by decide)) fun _=>(zO _).bind fun m => .ite (fun _ => .err (by decide)) fun _=>(z3m _ _).bind fun s => .ite (fun _ => .err (by decide)) fun _ => .ite (fun _ => .err (by decide)) fun _ => .ok _)
   fun _ => .ite (fun _ => .err (by decide)) fun _ => .ite (fun _ => .err (by decide)) fun _ => .ok _).bind fun v => .ite (fun _ => .ok _) fun _ => .err he
theorem z4z(p:Nat):NZ (Cr b p):=(zO p).bind fun x=>(zO _).bind fun y => .ite (fun _ => .ok _) fun h => .err h
theorem z0l:∀k p,NZ (yB b k p)
 |0,p => .ok _
 |k+1,p=>(z4z p).bind fun v=>(z0l k _).bind fun r => .ok _
open Classical in
theorem zwi:∀k l ws p,NZ (p9 b k l ws p)
 |0,l,ws,p => .ok _
 |k+1,l,ws,p=>by
  rw[p9];refine(zkh (by decide)).bind fun a=>(zkh (by decide)).bind fun v => ?_;split
  ·exact .err (by decide)
  ·exact zwi k _ _ _
theorem NZ.pair{α β:Type}{r:FE α}{k:α→FE β}(h:NZ r)(hk:∀v,NZ (k v)):NZ (lF r k):=h.bind fun v=>(hk v).bind fun w => .ok _
theorem z4o(ws:List (List UInt8))(p:Nat):NZ (zN b ws p):=NZ.bind ((((((((zkh (by decide)).pair fun z=>(zrh _).bind fun v => .ite (fun _ => .ok _) fun _ => .err (by decide)).pair fun z=>Nv (by decide)).pair fun z=>z0l _ _).pair fun z=>Nv (by decide)).pair fun z=>Nv (by decide)).pair fun z=>zwi _ _ _ _).pair fun z=>Nv (by decide)) fun z => .ok _
theorem zwj:∀k ws p,NZ (p_ b k ws p)
 |0,ws,p => .ok _
 |k+1,ws,p=>(z4o ws p).bind fun v=>(zwj k _ _).bind fun r => .ok _
theorem z4p:NZ (wk b):=(zO 0).bind fun c => .ite (fun _ => .err (by decide)) fun _=>(zwj _ _ _).bind fun r => .ite (fun _ => .err (by decide)) fun _ => .ok _
end
theorem zz9{n:Nat}{b:List UInt8}(hn:2000≤n)(hb:b.length≤100000000)(hm:b.length<n):F.vg n b=some (dfO (Nu b)):=by
 unfold F.vg F.yO Nu;rw[z4l hn (by omega),za];cases hh:uE b with
 |error e =>
  obtain⟨e1,_,_⟩:=z4n hh;have h2:(!((e.1==(0:Int))&&(e.2==(0:Int))))=true:=by simp[e1]
  show(amn (some ((0:Int),(e.1,e.2,()),())) _)=_;rw[za,h2];rfl
 | ok o =>
  cases o with
  |none=>rfl
  | some v =>
   obtain⟨h1,h2,h3,h4,h5⟩:=z3l hh;simp only[oK];show(amn (bif ((v.1:Int))==0 then some ((0:Int),((0:Int),(0:Int),()),())else some (aiS .i64 (aiS .i64 ((v.1:Int)+(v.2:Int))+4),(0,0,()),())) _)=_;rw[show((v.1:Int)==0)=false from by simp;omega,cond_false,za,zh (x:=(v.1:Int)+(v.2:Int)) (by omega),zh (by omega)];dsimp only;rw[show(!(((0:Int)==0)&&((0:Int)==0)))=false from rfl,cond_false,show((v.1:Int)+(v.2:Int)+4==0)=false from by simp;omega,cond_false];by_cases c1:b.length<v.1+v.2+4
   ·rw[zd (by omega),if_pos c1];rfl
   rw[ze (by omega),if_neg c1];by_cases c2:v.1+v.2+4<b.length
   ·rw[zd (by omega),if_pos c2];rfl
   rw[ze (by omega),if_neg c2,z3k hn hb hm,za,if_neg (by omega)];have hlen:b.length=v.1+v.2+4:=by omega
   have e4:aiS .i64 ((v.1:Int)+(v.2:Int)+4 - 4)=((v.1+v.2:Nat):Int):=by rw[zh (by omega)];omega
   by_cases c3:b.drop (b.length - 4)=oP (b.take (b.length - 4))
   ·rw[if_pos c3,if_pos c3,show(!((0:Int)==0))=false from rfl,cond_false,e4];show(sub b (v.1:Int) ((v.1+v.2:Nat):Int)).bind _=_;rw[zv b v.1 (v.1+v.2) (by omega) (by omega),za,zwe hn (by simp;omega)];cases hp:wk ((b.take (v.1+v.2)).drop v.1)with
    |ok l=>rfl
    |error e =>
     have h2:(!((e.1==(0:Int))&&(e.2==(0:Int))))=true:=by simp[z4p e hp]
     show(amn (some (([]:List au),(e.1,e.2,()),())) _)=_;rw[za,h2];rfl
   ·rw[if_neg c3,if_neg c3,show(!((24:Int)==0))=true from rfl,cond_true,e4];rfl
def j_(l:List au):List UInt8:=([77,71,1]++(bz (gg l).length++gg l))++oP ([77,71,1]++(bz (gg l).length++gg l))
theorem z0a(l:List UInt8):(oP l).length=4:=rfl
theorem z3n{l:List au}(hl:l.length≤1000)(h:∀m∈l,iv (eK m))(hp:(gg l).length≤1048576):Nu (j_ l) = .ok l:=by
 have hh:=z4m (b:=j_ l) (m:=(gg l).length) (r:=gg l++oP ([77,71,1]++(bz (gg l).length++gg l))) hp (by unfold j_;simp);have hlen:(j_ l).length=3+(bz (gg l).length).length+(gg l).length+4:=by unfold j_;simp only[ai3,z0a,ai0,alG];omega
 have h1:([77,71,1]++(bz (gg l).length++gg l):List UInt8).length=(j_ l).length - 4:=by rw[hlen];simp;omega
 have ht:(j_ l).take ((j_ l).length - 4)=[77,71,1]++(bz (gg l).length++gg l):=by rw[←h1];exact List.take_left
 have hd:(j_ l).drop ((j_ l).length - 4)=oP ([77,71,1]++(bz (gg l).length++gg l)):=by rw[←h1];exact amj
 unfold Nu;rw[hh];simp only[oK];rw[if_neg (by omega),if_neg (by omega),if_pos (by rw[ht,hd])];have ep:((j_ l).take (3+(bz (gg l).length).length+(gg l).length)).drop (3+(bz (gg l).length).length)=gg l:=by
  rw[show 3+(bz (gg l).length).length+(gg l).length=(j_ l).length - 4 from by omega,ht,←alK];have:([77,71,1]++bz (gg l).length:List UInt8).length=3+(bz (gg l).length).length:=by simp;omega
  rw[←this];exact amj
 rw[ep,z3i hl h]
end Go.AM
namespace Go.AM
theorem zl7{r:Int}(h1:1≤r)(h2:r<1000000)(z:Nat):(124:UInt8)∉(ct r).1++List.replicate z 48:=by rw[rP ⟨h1,h2⟩];obtain⟨p1,p2,p3,p4⟩:=nF (k:=r.toNat) (by omega);have:=zu6 (zt.2 ⟨sT p3,k_ z⟩);simpa using this
theorem zwk{m:bh}(hm:iF m)(h:f_ m 1=0):gd (s_ m)=some (m,(0,0,()),()):=by
 obtain⟨nm,k,d,r,rfl,ma,k1,k4,hd,r1,r2,gh,zL⟩:=zfi h;have yq:de d:=hm.2.1.2 d (by simp);obtain⟨neg,c,e,rfl,hc,he⟩:=qO yq;have jK:fS neg c e=0:=hd;have hp:=ze9 neg c hc e jK;have Nw:=zv0 k1 k4;have qG:¬kindOf (fL k)=0:=by rw[Nw];omega
 have hg:¬(kindOf (fL k)=2∧(fV neg c e).head? = some 45):=by
  rw[Nw]
  rintro ⟨h2,FX⟩
  have:neg=false:=zL h2;subst this;exact zsh c e FX
 have ta:=zjb neg c e;unfold s_ yo;simp only;by_cases hr:r=1000000
 ·rw[if_pos hr];have L:=zon (d:=(neg,(c:Int),e)) ma ta hp qG hg;have e1:nm++[58]++pY [(neg,(c:Int),e)]++[124]++fL k++[]=nm++58::(fV neg c e++124::fL k):=by have:pY [(neg,(c:Int),e)]=fV neg c e:=rfl;rw[this];simp
  rw[e1,L,Nw,hr]
 ·rw[if_neg hr];have L:=zq7 (d:=(neg,(c:Int),e)) ma ta hp qG hg (64::(ct r).1);have e1:nm++[58]++pY [(neg,(c:Int),e)]++[124]++fL k++([124,64]++(ct r).1)=nm++58::(fV neg c e++124::(fL k++124::(64::(ct r).1))):=by have:pY [(neg,(c:Int),e)]=fV neg c e:=rfl;rw[this];simp
  have xI:(124:UInt8)∉(ct r).1:=by have:=zl7 r1 (by omega) 0;simpa using this
  have kg:¬k=2:=fun h=>hr (gh h);have abJ:du (ct r).1=gy r 0 0:=by rw[rP ⟨r1,by omega⟩];have:=zlm r ⟨r1,by omega⟩ 0;obtain⟨p1,p2,p3,p4⟩:=nF (k:=r.toNat) (by omega);have hle:=Cb (fA r.toNat);rw[if_pos (by omega),List.replicate_zero,ak9]at this;exact this
  rw[e1,L];have tK:(64::(ct r).1:List UInt8).drop 1=(ct r).1:=rfl;rw[tK,qP xI,abJ,Nw];have VV:(64::(ct r).1:List UInt8).head? = some 64:=rfl
  rw[if_neg (fun hh=>hh VV),if_neg (show ¬(¬(gy r 0 0).2.1.1=0∨(k=2∧¬(gy r 0 0).1=1000000))from by
   rintro (h|h)
   ·exact h rfl
   ·exact kg h.1),if_neg xI]
  rfl
end Go.AM
namespace Go.AM
theorem zs9{m:bh}(hI:iv m){f:Int}(hf:kU f=true)(h0:f_ m f=0):e_ (fE m f) f=(m,(0,0,()),()):=by
 have hl:=zgx hI.right hI.tg.2.2 hf h0;unfold e_;rw[if_neg (by simp[hf]),if_neg (by omega)];unfold fE;rcases mf hf with rfl|rfl|rfl
 ·rw[if_pos rfl,if_pos rfl];unfold Nl;rw[zwk hI.right.ok h0];rfl
 ·rw[if_neg (by decide),if_pos rfl,if_neg (by decide),if_pos rfl,zsu hI]
 ·rw[if_neg (by decide),if_neg (by decide),if_neg (by decide),if_neg (by decide),zs1 hI.right.ok h0]
def mq(s:List UInt8):Bool:=s.all fun b=>decide (32≤b.toNat)
theorem ql(a b:List UInt8):mq (a++b)=(mq a&&mq b):=List.all_append
theorem zoz{s:List UInt8}(h:mq s=true):(10:UInt8)∉s:=fun hm=>absurd (ai4.1 h _ hm) (by decide)
theorem zri{s:List UInt8}{p:UInt8→Bool}(h:s.all p=true)(hp:∀b,p b=true→32≤b.toNat):mq s=true:=ai4.2 fun b hb=>decide_eq_true (hp b (ai4.1 h b hb))
theorem zo0{s:List UInt8}(h:cz s):mq s=true:=zri h fun b hb=>by unfold ef at hb;simp only[aiX,decide_eq_true_eq]at hb;omega
theorem z3o{c:Int}{b:UInt8}(h:cls c b=true):32≤b.toNat:=by
 have key:∀k:Fin 32,vp ((k.val:Nat):Int) 33 126=false∧(((k.val:Nat):Int)==47)=false∧A7 ((k.val:Nat):Int)=false∧vp ((k.val:Nat):Int) 48 57=false:=by decide
 rcases Nat.lt_or_ge b.toNat 32 with hb|hb
 ·exfalso;obtain⟨h1,h2,h3,h4⟩:=key ⟨b.toNat,hb⟩;dsimp only at h1 h2 h3 h4;unfold cls at h;rw[h1,h2,h3,h4]at h;revert h;cases(c==3)<;>cases(c==2)<;>cases(c==1)<;>simp
 ·exact hb
theorem zg0{c:Int}{s:List UInt8}{lo hi:Int}(h:(eS c s lo hi).1=0):mq s=true:=zri (kL h).2.2 fun b hb=>z3o hb
theorem z0b{s:List UInt8}(h:cX s=true):mq s=true:=zg0 (c:=1) (lo:=1) (hi:=200) (by unfold cX at h;simpa using h)
theorem zl0(neg:Bool)(c:Nat)(e:Int):mq (fV neg c e)=true:=ai4.2 fun b hb=>by
 rcases wI neg c e b hb with⟨rfl,_⟩ |hd|rfl
 ·decide
 ·unfold ef at hd;simp only[aiX,decide_eq_true_eq]at hd;exact decide_eq_true (by omega)
 ·decide
theorem zo1{l:List (List UInt8)}(h:∀x∈l,mq x=true):mq l.flatten=true:=ai4.2 fun b hb=>by obtain⟨x,hx,hb⟩:=List.mem_flatten.1 hb;exact ai4.1 (h x hx) b hb
theorem z0c{r:Int}(h1:1≤r)(h2:r≤1000000):mq (ct r).1=true:=by
 by_cases e:r=1000000
 ·subst e;rfl
 ·rw[rP ⟨h1,by omega⟩];have hd:cz (db (fA r.toNat)):=sT (nF (k:=r.toNat) (by omega)).2.2.1;have:=zo0 hd;show(decide (32≤(48:UInt8).toNat)&&(decide (32≤(46:UInt8).toNat)&&mq (db (fA r.toNat))))=true;rw[this];decide
theorem zo2{m:bh}(hI:iv m){f:Int}(hf:kU f=true)(h0:f_ m f=0):mq (fE m f)=true:=by
 unfold fE;have hn:=z0b hI.nm;have Lq:=(M6 hI.rt).2.2;have hr:=z0c Lq.1 Lq.2;have hv:mq (pY m.2.2.1)=true:=by
  cases m.2.2.1 with
  |nil=>rfl
  |cons d l=>exact zl0 _ _ _
 have ht:=zo0 (jy m.2.2.2.2.2.1.toNat);rcases mf hf with rfl|rfl|rfl
 ·rw[if_pos rfl];unfold s_ yo;have hw:mq (fL m.2.1)=true:=by
   unfold fL
   repeat' split
   all_goals rfl
  have:mq (if m.2.2.2.1=1000000 then[]else[124,64]++(ct m.2.2.2.1).1)=true:=by
   split
   ·rfl
   ·rw[ql,hr];rfl
  simp only[ql,hn,hv,hw,this];rfl
 ·rw [if_neg (by decide),if_pos rfl];unfold pK;have hw:mq (nu m.2.1)=true:=by rcases M5 hI.kd with e|e|e|e|e<;>rw[e]<;>rfl
  have h1:mq (mj m.2.2.2.1)=true:=by
   unfold mj;split
   ·rfl
   ·rw[ql,hr];rfl
  have h2:mq (ny m.2.2.2.2.2.1)=true:=by
   unfold ny;split
   ·rfl
   ·rw[ql,ht];rfl
  have h3:mq (iP m.2.2.1)=true:=by unfold iP;refine zo1 fun x hx => ?_;obtain⟨d,_,rfl⟩:=alS.1 hx;have:=zl0 d.1 d.2.1.toNat d.2.2;show(decide (32≤(58:UInt8).toNat)&&mq (jq d))=true;unfold jq;rw[this];rfl
  have h4 : mq (om m.2.2.2.2.1)=true:=by
   unfold om;split
   ·rfl
   ·rw[ql]
    have tF:∀x∈m.2.2.2.2.1.map ga,mq x=true:=fun x hx=>by
     obtain⟨t,Ak,rfl⟩:=alS.1 hx;have hg:=hI.tg.1 t Ak;unfold dm at hg;simp only[aiX,beq_iff_eq]at hg;have v1:=zg0 hg.1;have v2:=zg0 hg.2;unfold ga;split
     ·exact v1
     ·rw[ql,ql,v1,v2];rfl
    have:mq (gP m.2.2.2.2.1)=true:=by
     unfold gP;generalize m.2.2.2.2.1.map ga=l at tF;cases l with
     |nil=>rfl
     |cons x l =>rw[Lib.join_cons,ql,tF x (by simp)];unfold Lib.joinTail;refine zo1 fun y hy => ?_;obtain⟨z,hz,rfl⟩:=alS.1 hy;rw[ql,tF z (List.mem_cons_of_mem _ hz)];rfl
    rw[this];rfl
  simp only[ql,hn,hw,h1,h2,h3,h4];rfl
 ·rw[if_neg (by decide),if_neg (by decide)];unfold pM;simp only[ql,hn,hv,ht];rfl
end Go.AM
namespace Go.AM
theorem zwl{p:List UInt8}{r:List (List UInt8)}(h:r≠[])(f:Int)(out:List au)(a:Int):sq f (p::r) out a =
 if out.length=1000 then .error (12,a)else if(e_ p f).2.1.1≠0 then .error ((e_ p f).2.1.1,a+(e_ p f).2.1.2.1)else sq f r (out++[Dt (e_ p f).1]) (a+p.length+1):=by
 cases r with
 |nil=>exact absurd rfl h
 |cons q r=>rfl
theorem zl1(f:Int)(hf:kU f=true):∀(ms out:List au)(a:Int),(∀m∈ms,iv (eK m)∧f_ (eK m) f=0)→out.length+ms.length≤1000→sq f ((ms.map fun m=>fE (eK m) f)++[[]]) out a = .ok (out++ms)
 |[],out,a,_,_=>by show sq f [[]] out a=_;rw[sq,if_pos rfl,ak9]
 |m::ms,out,a,h,hl=>by obtain⟨h1,h2⟩:=h m (by simp);rw[List.map_cons,List.cons_append,zwl (by simp),if_neg (by simp at hl;omega),zs9 h1 hf h2,if_neg (by simp),zl1 f hf ms _ _ (fun x hx=>h x (by simp[hx])) (by simp at hl ⊢;omega),alK];rfl
theorem zg1:∀l:List (List UInt8),(∀x∈l,(10:UInt8)∉x)→bj 10 (cj l)=l++[[]]
 |[],_=>rfl
 |x::l,h=>by
  have:cj (x::l)=x++10::cj l:=by simp[cj]
  rw[this,zji (h x (by simp)),zg1 l fun y hy=>h y (by simp[hy])];rfl
theorem zo3{ms:List au}{f:Int}(hf:kU f=true)(h:∀m∈ms,iv (eK m)∧f_ (eK m) f=0)(hl:ms.length≤1000):uC (cj (ms.map fun m=>fE (eK m) f)) f=(ms,(0,0,()),()):=by unfold uC;rw[if_neg (by simp[hf]),zg1 _ (fun x hx=>by obtain⟨m,hm,rfl⟩:=alS.1 hx;exact zoz (zo2 (h m hm).1 hf (h m hm).2)),zl1 f hf ms [] 0 h (by simpa using hl)];rfl
end Go.AM
namespace Go.AM
def Bp(l:List au):Prop:=l.length≤2000∧∀x∈l,x.2.2.1.length≤1000∧x.2.2.2.2.1.length≤1000
theorem zta(n:Nat)(hn:200000≤n)(k0:Unit→Option Bool)(kr:Bool→Option Bool)(l:List au)(h:Bp l):∀(r:List au)(i m:Nat),l.drop i=r→r.length<m→F.jz.ae n k0 kr m l l (l.length:Int) (i:Int)=k0 ():=by
 have hl:=h.1;intro r;induction r with
 |nil =>intro i m hi hm;have:=zm hi;obtain⟨m,rfl⟩:∃q,m=q+1:=⟨m - 1,by omega⟩;rw[F.jz.ae];unfold F.jz.ae.step;dsimp only;rw[ze (by omega)]
 |cons x r ih =>
  intro i m hi hm;obtain⟨g1,g2,g3⟩:=zl hi;obtain⟨m,rfl⟩:∃q,m=q+1:=⟨m - 1,by omega⟩;obtain⟨x1,x2⟩:=h.2 x (alN g2);have hN:F.sT n (x.1,x.2.1,x.2.2.1,x.2.2.2.1,x.2.2.2.2.1,x.2.2.2.2.2,()) (x.1,x.2.1,x.2.2.1,x.2.2.2.1,x.2.2.2.2.1,x.2.2.2.2.2,())=some true:=by have:=zy5 n hn (eK x) (eK x) (show x.2.2.1.length≤10000 by omega) (show x.2.2.2.2.1.length≤10000 by omega);rw[zq3 rfl]at this;exact this
  rw[F.jz.ae];unfold F.jz.ae.step;dsimp only;rw[zd (by omega),zp,g2,za,za,hN,za,aiT,cond_false,zi (by omega),ih (i+1) m g3 (by simp at hm;omega)]
theorem zl8(n:Nat)(hn:200000≤n){l:List au}(h:Bp l):F.jz n l l=some true:=by unfold F.jz;rw[beq_self_eq_true,aiT,cond_false];exact zta n hn _ _ l h l 0 n rfl (by have:=h.1;omega)
end Go.AM
namespace Go.AM
theorem zwm{l:List au}(hl:l.length≤2000)(h:∀m∈l,iv (eK m)):Bp l:=⟨hl,fun x hx=>⟨by have:x.2.2.1.length≤64:=(h x hx).vs.2.2;omega,by have:x.2.2.2.2.1.length≤32:=(h x hx).tg.2.1;omega⟩⟩
end Go.AM
namespace Go.AM
def wm(l:List au)(f mtu:Int):EC:=
 if 1≤mtu∧mtu≤65536 then
  if f=4 then
   if(iH l).2.2.1=0 then(if((iH l).1.length:Int)>mtu then([],0,27,())else([(iH l).1],0,0,()))else([],(iH l).2.1,(iH l).2.2.1,())
  else if(fF l f).2.2.1=0 then mY (fF l f).1 mtu else([],(fF l f).2.1,(fF l f).2.2.1,())
 else([],0,10,())
def wo(l:List au)(f:Int):Int×Int×Int×Unit:=
 if f=4 then((iH l).1.length,(iH l).2.1,(iH l).2.2.1,())
 else if(fF l f).2.2.1=0 then(wi (fF l f).1 1,0,0,())else(0,(fF l f).2.1,(fF l f).2.2.1,())
theorem z3p(n:Nat)(hn:2000000≤n)(l:List au)(cb:iG l)(hl:l.length≤12)(f mtu:Int):F.wL n l f mtu=some (wm l f mtu):=by
 unfold F.wL wm;rw[zq9,za];by_cases hm:1≤mtu∧mtu≤65536
 ·rw[decide_eq_true hm,aiT,cond_false,if_pos hm];by_cases h4:f=4
  ·rw[beq_iff_eq.2 h4,cond_true,if_pos h4,zht n hn l cb,za];by_cases h0:(iH l).2.2.1=0
   ·rw[if_pos h0,h0,show(!((0:Int)==(0:Int)))=false from rfl,cond_false];by_cases hb:((iH l).1.length:Int)>mtu
    ·rw[zd hb,if_pos hb]
    ·rw[ze hb,if_neg hb]
   ·rw[beq_eq_false_iff_ne.2 h0,ai2,cond_true,if_neg h0]
  ·rw[beq_eq_false_iff_ne.2 h4,cond_false,if_neg h4,zgy n (by omega) l cb f,za];have hf:=zp5 hl cb f;by_cases h0:(fF l f).2.2.1=0
   ·rw[h0,show(!((0:Int)==(0:Int)))=false from rfl,cond_false,zgz n (by omega) _ mtu hf,za,if_pos rfl]
   ·rw[beq_eq_false_iff_ne.2 h0,ai2,cond_true,if_neg h0]
 ·rw[decide_eq_false hm,ai2,cond_true,if_neg hm]
theorem z3q(n:Nat)(hn:2000000≤n)(l:List au)(cb:iG l)(hl:l.length≤12)(f:Int):F.jy n l f=some (wo l f):=by
 unfold F.jy wo;by_cases h4:f=4
 ·rw[beq_iff_eq.2 h4,cond_true,zht n hn l cb,za,if_pos h4]
 ·rw[beq_eq_false_iff_ne.2 h4,cond_false,zgy n (by omega) l cb f,za,if_neg h4];have nD:=zjn (l:=l) (by omega) cb f;have jc:=fun s hs=>(zjm cb f).2 s hs;by_cases h0:(fF l f).2.2.1=0
  ·rw[h0,show(!((0:Int)==(0:Int)))=false from rfl,cond_false,if_pos rfl];exact zs6 n (fun abL=>some ((abL,(0:Int),(0:Int),()))) (fF l f).1 (by omega) (fun s hs=>by have:=jc s hs;omega) (fF l f).1 0 n 1 (by simp) (by omega) (by omega)
  ·rw[beq_eq_false_iff_ne.2 h0,ai2,cond_true,if_neg h0]
theorem zrj(t:Int):∀(l:List (List UInt8))(v:Int),wi l v≤t↔v≤t∧∀s∈l,(s.length:Int)+1≤t
 |[],v=>by simp[wi]
 |s::l,v=>by
  rw[wi,zrj t l];simp only[amp,forall_eq_or_imp];split<;>constructor<;>rintro ⟨a,b⟩
  ·exact⟨by omega,a,b⟩
  ·exact⟨b.1,b.2⟩
  ·exact⟨a,by omega,b⟩
  ·exact⟨a,b.2⟩
theorem zo4{mtu:Int}:∀(l:List (List UInt8))(k:Nat),(∀s∈l,(10:UInt8)∉s)→(yA mtu k l=none∧∀s∈l,(s.length:Int)+1≤mtu)∨(∃j,yA mtu k l=some (j,27)∧¬ ∀s∈l,(s.length:Int)+1≤mtu)
 |[],k,h=>ai7 ⟨rfl,by simp⟩
 | s :: l,k,h=>by
  rw[yA,if_neg (h s (by simp))];by_cases hs:(s.length:Int)+1>mtu
  ·rw[if_pos hs];exact ak0 ⟨k,rfl,fun ha=>by have:=ha s (by simp);omega⟩
  ·rw[if_neg hs];rcases zo4 l (k+1) (fun t ht=>h t (by simp[ht]))with⟨a,b⟩ |⟨j,a,b⟩
   ·refine ai7 ⟨a,fun t ht => ?_⟩;rcases amp.1 ht with rfl|ht
    ·omega
    ·exact b t ht
   ·exact ak0 ⟨j,a,fun hc=>b fun t ht=>hc t (by simp[ht])⟩
def gT(f:Int)(c:List au):List UInt8:=if f=4 then j_ c else cj (c.map fun m=>fE (eK m) f)
theorem zeh{f mtu:Int}(hf:f≠4):∀(ms c:List au),(∀m∈ms,((fE (eK m) f).length:Int)+1≤mtu) →
 ∃ps:List (List au),lL mtu (gT f c) (ms.map fun m=>fE (eK m) f)=ps.map (gT f)∧ps.flatten=c++ms∧∀p∈ps,p≠[]
 |[],c,h=>by
  by_cases hc:c=[]
  ·subst hc;refine⟨[],?_,rfl,by simp⟩;unfold gT;rw[if_neg hf];rfl
  ·refine⟨[c],?_,by simp,by simpa using hc⟩;have:gT f c≠[]:=fun he=>hc (by unfold gT at he;rw[if_neg hf]at he;simpa using zv3 he);show(if gT f c=[]then[]else[gT f c])=_;rw[if_neg this];rfl
 | m :: ms,c,h=>by
  have h1:=h m (by simp);have e1:fE (eK m) f++[10]=gT f [m]:=by unfold gT;rw[if_neg hf];simp[cj]
  rw[List.map_cons,Nn];by_cases ho:((gT f c).length:Int)+(fE (eK m) f).length+1>mtu
  ·rw[if_pos ho,e1];obtain⟨ps,a,b,d⟩:=zeh hf ms [m] fun x hx=>h x (by simp[hx]);have hc:c≠[]:=by
    rintro rfl
    have:gT f []=[]:=by unfold gT;rw[if_neg hf];rfl
    rw[this]at ho;simp only[alG]at ho;omega
   exact⟨c::ps,by rw[a];rfl,by simp[b],fun p hp=>by
    rcases amp.1 hp with e|hp
    ·rw[e];exact hc
    ·exact d p hp⟩
  ·rw[if_neg ho,alK,e1];have e2:gT f c++gT f [m]=gT f (c++[m]):=by unfold gT;rw[if_neg hf,if_neg hf,if_neg hf,List.map_append,W2]
   rw[e2];obtain⟨ps,a,b,d⟩:=zeh hf ms (c++[m]) fun x hx=>h x (by simp[hx]);exact⟨ps,a,by simp[b],d⟩
end Go.AM
namespace Go.AM
def Lr(n:Nat)(f:Int)(p:List au):Prop:=(f=4→F.vg n (gT f p)=some (p,(0,0,()),()))∧(f≠4→F.iI n (gT f p) f=some (p,(0,0,()),())∧p≠[])
theorem zp7{l:List au}(cb:iG l):(∃i e:Int,e≠0∧iH l=([],i,e,())) ∨
 ((cw l).2=(0,0,())∧lK (cw l).1∧(gg (cw l).1).length≤1048576∧iH l=(j_ (cw l).1,0,0,())):=by
 unfold iH;rcases rM cb with⟨h1,h2,h3,h4⟩ |⟨i,e,he,h⟩
 ·rw[if_pos (by rw[h1])];by_cases hp:1048576<(bz (cw l).1.length++kT [] (cw l).1).length
  ·dsimp only;rw[if_pos hp];exact ai7 ⟨_,12,by decide,rfl⟩
  ·dsimp only;rw[if_neg hp];refine ak0 ⟨h1,h2,by unfold gg;omega,?_⟩;unfold j_ gg;simp only[alK];rfl
 ·rw[h,if_neg he];exact ai7 ⟨i,e,he,rfl⟩
theorem ztb{n:Nat}(hn:2000000≤n){l:List au}(hR:lK l)(hp:(gg l).length≤1048576)(hf:(j_ l).length≤65536):F.vg n (j_ l)=some (l,(0,0,()),()):=by rw[zz9 (by omega) (by omega) (by omega),z3n hR.1 (fun m hm=>fT.inv (hR.2 m hm).1 (hR.2 m hm).2) hp];rfl
theorem zo5{α:Type}:∀(ps:List (List α))(p:List α),p∈ps→p.length≤ps.flatten.length
 |q::ps,p,h=>by
  rw[amy,ai3];rcases amp.1 h with e|h
  ·rw[e];omega
  ·have:=zo5 ps p h;omega
theorem zwn{n:Nat}(hn:2000000≤n){l:List au}(cb:iG l)(hl:l.length≤12)(f:Int){mtu:Int}(hm:1≤mtu∧mtu≤65536) :
 (∃i j e:Int,e≠0∧wm l f mtu=([],i,e,())∧wo l f=(0,j,e,())) ∨
 ((wo l f).2.2.1=0∧mtu<(wo l f).1∧∃i,wm l f mtu=([],i,27,())) ∨
 ((wo l f).2.2.1=0∧(wo l f).1≤mtu∧(cw l).2=(0,0,())∧lK (cw l).1∧(cw l).1.length≤12∧∃ps:List (List au),wm l f mtu=(ps.map (gT f),0,0,())∧ps.length≤13∧ps.flatten=(cw l).1∧∀p∈ps,Lr n f p):=by
 have hlen:(cw l).2=(0,0,())→(cw l).1.length≤12:=by
  intro h0;rcases rM cb with⟨-,-,h3,-⟩ |⟨i,e,he,h⟩
  ·rw[h3,als];exact hl
  ·rw[h]at h0;simp at h0;exact absurd h0.2 he
 unfold wm wo;rw[if_pos hm];by_cases h4:f=4
 ·rw [if_pos h4,if_pos h4];rcases zp7 cb with⟨i,e,he,h⟩ |⟨h1,h2,h3,h⟩
  ·rw[h];exact ai7 ⟨i,i,e,he,if_neg he,rfl⟩
  ·rw[h];by_cases hb:((j_ (cw l).1).length:Int)>mtu
   ·exact ak0 (ai7 ⟨rfl,hb,0,by rw[if_pos rfl,if_pos hb]⟩)
   ·refine ak0 (ak0 ⟨rfl,by show((j_ (cw l).1).length:Int)≤mtu;omega,h1,h2,hlen h1,[(cw l).1],?_,by simp,by simp,?_⟩)
    ·rw[if_pos rfl,if_neg hb];unfold gT;rw[h4];rfl
    ·intro p hp;obtain rfl:=ame.1 hp;refine⟨fun _ => ?_,fun h=>absurd h4 h⟩;have:gT f (cw l).1=j_ (cw l).1:=by unfold gT;rw[if_pos h4]
     rw[this];exact ztb hn h2 h3 (by omega)
 ·rw[if_neg h4,if_neg h4];rcases zds cb f with⟨h1,hf,h2,hR,he,h⟩ |⟨i,e,he,h⟩
  ·have hI:∀m∈(cw l).1,iv (eK m)∧f_ (eK m) f=0:=fun m hm=>⟨fT.inv (hR.2 m hm).1 (hR.2 m hm).2,he m hm⟩;have hv:∀s∈(cw l).1.map (fun m=>fE (eK m) f),(10:UInt8)∉s:=fun s hs=>by obtain⟨m,hm,rfl⟩:=alS.1 hs;exact zoz (zo2 (hI m hm).1 hf (hI m hm).2)
   rw[h1,if_pos rfl,if_pos rfl,h];unfold mY;rw[if_neg (by omega)];have hx:=zrj mtu ((cw l).1.map fun m=>fE (eK m) f) 1;rcases zo4 (mtu:=mtu) _ 0 hv with⟨a,b⟩ |⟨j,a,b⟩
   ·rw[a];obtain⟨ps,p1,p2,p3⟩:=zeh (mtu:=mtu) h4 (cw l).1 [] fun m hm=>b _ (alS.2 ⟨m,hm,rfl⟩);have e0:gT f []=[]:=by unfold gT;rw[if_neg h4];rfl
    rw[e0]at p1;rw[ai8]at p2;have hg:=zc6 (mtu:=mtu) ((cw l).1.map fun m=>fE (eK m) f) [];rw[p1,als,als]at hg;have wz:=hlen h2;refine ak0 (ak0 ⟨rfl,hx.2 ⟨hm.1,b⟩,h2,hR,wz,ps,by rw[←p1],by omega,p2,fun p hp=>⟨fun h=>absurd h h4,fun _=>⟨?_,p3 p hp⟩⟩⟩);have fY:∀m∈p,m∈(cw l).1:=fun m hm=>by rw[←p2];exact List.mem_flatten.2 ⟨p,hp,hm⟩
    have uU:=zo5 ps p hp;rw[p2]at uU;have e1:gT f p=cj (p.map fun m=>fE (eK m) f):=by unfold gT;rw[if_neg h4]
    have hb:=zos 8192 (p.map fun m=>fE (eK m) f) fun s hs=>by obtain⟨m,hm,rfl⟩:=alS.1 hs;exact zgx (hR.2 m (fY m hm)).1 (hR.2 m (fY m hm)).2 hf (he m (fY m hm))
    rw[als]at hb;have ly:p.length*8193≤12*8193:=ak5 _ (by omega);rw[e1,zs3 n (by omega) _ (by omega) (by omega) f,zo3 hf (fun m hm=>hI m (fY m hm)) (by omega)]
   ·rw[a];refine ak0 (ai7 ⟨rfl,?_,j,rfl⟩);have:¬wi ((cw l).1.map fun m=>fE (eK m) f) 1≤mtu:=fun h=>b (hx.1 h).2;show mtu<wi _ 1;omega
  ·rw[h];exact ai7 ⟨i,i,e,he,by rw[if_neg (show ¬([],i,e,()).2.2.1=0 from he)],by rw[if_neg (show ¬([],i,e,()).2.2.1=0 from he)]⟩
theorem Ls{X:Type}{a b:Nat}(h:a+b≤100000)(y:Option X):(bif decide ((a+b)*88≤2 ^ 46)&&decide (0<88∧88≤2 ^ 20)then y else none)=y:=by rw[decide_eq_true (by omega),decide_eq_true (by omega)];rfl
theorem ztc{X:Type}{n:Nat}(l:List au)(f:Int)(k0:List au→List au→Nat→Option X)(kr:Bool→Option X)(gs:List (List UInt8))(hg:gs.length≤1000):∀(r:List (List au))(i m:Nat)(acc:List au),gs.drop i=r.map (gT f)→(∀p∈r,Lr n f p)→r.length<m→acc.length+r.flatten.length≤1000 →
 F.zv.xW n k0 kr m l f gs acc (i:Int) acc.length=k0 l (acc++r.flatten) (acc++r.flatten).length:=by
 intro r;induction r with
 |nil =>intro i m acc h1 h2 hm ha;obtain⟨m,rfl⟩:∃q,m=q+1:=⟨m - 1,by omega⟩;rw[F.zv.xW];unfold F.zv.xW.step;dsimp only;rw[ze (by have:=zm h1;omega),List.flatten_nil,ak9]
 | cons p r ih =>
  intro i m acc h1 h2 hm ha;obtain⟨m,rfl⟩:∃q,m=q+1:=⟨m - 1,by simp at hm;omega⟩;rw[List.map_cons]at h1;obtain⟨l1,g1,t1⟩:=zl h1;rw[amy,ai3]at ha;obtain⟨hA,hB⟩:=h2 p (by simp);rw[F.zv.xW];unfold F.zv.xW.step;dsimp only;have hi:=ih (i+1) m (acc++p) t1 (fun q hq=>h2 q (by simp[hq])) (by simp at hm;omega) (by rw[ai3];omega);rw[zd (by omega),zp,g1,amy,←alK];by_cases h4:f=4
  ·rw[beq_iff_eq.2 h4,cond_true,za,hA h4,za,aiT,cond_false];dsimp only;rw[show(!(((0:Int)==(0:Int))&&((0:Int)==(0:Int))))=false from rfl,cond_false,Ls (by omega),amd,cond_true,zi (by omega),hi]
  ·have c_:((p.length:Int)==(0:Int))=false:=by
    have:=(hB h4).2;cases p with
    |nil=>exact absurd rfl this
    |cons x y=>rw[beq_eq_false_iff_ne];simp only[ai0];omega
   rw[beq_eq_false_iff_ne.2 h4,cond_false,za,(hB h4).1,za,ai2,cond_true];dsimp only;rw[show(!(((0:Int)==(0:Int))&&((0:Int)==(0:Int))))=false from rfl,cond_false,c_,cond_false,Ls (by omega),amd,cond_true,zi (by omega),hi]
theorem zp8(n:Nat)(hn:2000000≤n)(l:List au)(hw:∀m∈l,Dq (eK m))(f mtu:Int):F.zv n l f mtu=some true:=by
 unfold F.zv;rw[z3d n (by omega) l,za,zv5 n (by omega)];cases h:Bn l
 ·rfl
 obtain⟨cb,hl⟩:=z3e hw h;rw[aiT,cond_false,z3p n hn l cb hl,z3q n hn l cb hl,za,za];by_cases hm:1≤mtu∧mtu≤65536
 ·rw[ze (by omega),ze (by omega)];rcases zwn hn cb hl f hm with⟨i,j,e,he,h1,h2⟩ |⟨h1,h2,i,h3⟩ |⟨h1,h2,h3,hR,wz,ps,h4,h5,h6,h7⟩
  ·rw[h1,h2];dsimp only;rw[beq_eq_false_iff_ne.2 he];show(bif e==e then some true else some false)=some true;rw[beq_self_eq_true];rfl
  ·rw[h3,h1];dsimp only;rw[decide_eq_false (by omega)];rfl
  ·rw[h4,h1];dsimp only;rw[decide_eq_true (by omega)];have E1:=ztc (n:=n) l f (fun abN Nx apK=>(F.zu n abN).bind fun y20=>bif y20.2.2.1==(0:Int)then(F.jz n Nx y20.1).bind fun y21=>bif y21 then(some true).bind fun y22=>some (y22)else some (false)else some (false)) (fun e=>some e) (ps.map (gT f)) (by rw[als];omega) ps 0 n [] rfl h7 (by omega) (by rw[h6];simp;omega);refine Eq.trans E1 ?_;rw[zdr n (by omega) l cb,za,h3,ai8,h6];dsimp only;rw[beq_self_eq_true,cond_true,zl8 n (by omega) (zwm (by omega) fun m hm=>fT.inv (hR.2 m hm).1 (hR.2 m hm).2)];rfl
 ·have hb:wm l f mtu=([],0,10,()):=by unfold wm;rw[if_neg hm]
  rw[hb];by_cases h1:mtu<1
  ·rw[zd h1];rfl
  ·rw[ze h1,zd (by omega)];rfl
end Go.AM
namespace Go.Proofs.YtodkiaiclgdifaaGreatDoor.splitApart
open Go.ChangeShapes Go.WideShapes Go.ChangeAt Go.RowKit Go.AM
theorem j1:laidOutB Tryz.prog=true:=by kernel_rfl
theorem own:ownKnob Tryz.prog.godebug=none:=by kernel_rfl
theorem goes:BZ Tryz.prog SI 3 [(.sl (.agg [.str,(.int .i64),(.sl (.agg [.bool,(.int .u64),(.int .i64)])),(.int .i64),(.sl (.agg [.str,.str])),(.int .i64)])),(.int .i64),(.int .i64)]:=fun x hx w aj hI hr =>ok3 _ (x.1,x.2.1,x.2.2.1,()) true (zp8 2000000 (by omega) x.1 (fun m hm=>(hx.1.2 m hm).2.2.1.2) x.2.1 x.2.2.1) w (t_ w) aj (cg.of hI) hr (fun b o h=>h)
noncomputable def pP(os:Os):World:=Mr Tryz.prog os [ub 4 Rows.laid_math_bits_deBruijn32tab,ub 5 Rows.laid_math_bits_deBruijn64tab,ub 1 Rows.laid_internal_strconv_uint64pow10,ub 3 Rows.laid_unicode_utf8_acceptRanges,DV 7 339 341 Rows.laid_strconv_ErrRange,DV 6 339 341 Rows.laid_strconv_ErrSyntax,ub 2 Rows.laid_unicode_utf8_first]
theorem z0d(os:Os)(args:Array Value):laidMet Tryz.prog Rows.splitApartRow.laid ((pP os).forCall (fun _ _=>0) ⟨#[],args,[]⟩).memory:=(LaidIn.of_run [4,5,1,3,7,6,2,(World.holding Tryz.prog os ⟨#[],#[],[]⟩).heap.size,(World.holding Tryz.prog os ⟨#[],#[],[]⟩).heap.size+1] 8 (by kernel_rfl) (by kernel_rfl) (by kernel_rfl) (by kernel_rfl)).met
theorem zp9(os:Os){H:Type}(enc:TypeId×Value→H) :
 (al7 Rows.splitApartSpec).preRow enc Tryz.prog Tryz.f3 Rows.splitApartRow.domain false Rows.splitApartRow.laid ((pP os).forCall (fun _ _=>0) ⟨#[],#[.slice none 0 0,.int .i64 0,.int .i64 0],[]⟩).memory #[.slice none 0 0,.int .i64 0,.int .i64 0]:=by
 have hw:(DataW.whole enc Tryz.prog ((pP os).forCall (fun _ _=>0) ⟨#[],#[.slice none 0 0,.int .i64 0,.int .i64 0],[]⟩).memory Tryz.f3.params.toList Rows.splitApartSpec.vars false (#[.slice none 0 0,.int .i64 0,.int .i64 0]:Array Value).toList 8).map (fun x=>(x.1,x.2.1)) =
  some ([.nil,.lit (.int .i64 0),.lit (.int .i64 0)],[]):=by kernel_rfl
 obtain⟨⟨x1,x2,x3⟩,hx,oJ⟩:=Option.map_eq_some_iff.1 hw;simp only[Prod.mk.injEq]at oJ;obtain⟨rfl,rfl⟩:=oJ;exact OpenSpec.preRow_of_cond 8 hx (by kernel_rfl) (fun k hk=>by cases hk) (by kernel_rfl) (z0d os _)
set_option maxRecDepth 100000 in
theorem lifted(os:Os)(started:os.Started)(H:Type)(enc:TypeId×Value→H)(F:Stop.Interp) :
 ReturnsInHanded {} Tryz.checked os 3 .any ((al7 Rows.splitApartSpec).preRow enc Tryz.prog Tryz.f3 Rows.splitApartRow.domain false Rows.splitApartRow.laid) (((al7 Rows.splitApartSpec).at F).post enc Tryz.prog Tryz.f3 false true false false):=by
 refine returnsInHanded_of_row (C:=Tryz.checked) (s:=al7 Rows.splitApartSpec) own started (by kernel_rfl) Tryz.func3
  (witness_row_atRef (enc:=enc) (C:=Tryz.checked) false (pP os) #[.slice none 0 0,.int .i64 0,.int .i64 0] rfl (by kernel_rfl) (by kernel_rfl) (by kernel_rfl) (zp9 os enc)) ?_
 intro W base args ds gs before j8 hW _ _ hw hL hO _;exact zua (s:=Rows.splitApartSpec) (n:=8) j1 Tryz.func3 (by kernel_rfl) (by decide) (by kernel_rfl) rfl Tryz.underlying4 rfl (fun ds h=>by match ds,h with|[_,_,_],_=>rfl) goes j8 hW hw ⟨hL,hO⟩
theorem j2:mapsRowed Tryz.prog=true:=by kernel_rfl
theorem j3:(Rows.splitApartRow.inPlace==Tryz.prog.inPlace 3)=true:=by kernel_rfl
theorem j4:(Rows.splitApartRow.unfollowed==Tryz.prog.unfollowed 3)=true:=by kernel_rfl
theorem j5:(Rows.splitApartRow.recurses==Tryz.prog.recurses 3)=true:=by kernel_rfl
theorem j6:(Rows.splitApartRow.named==Tryz.prog.varsNamed 3)=true:=by kernel_rfl
theorem Ny:joinedFacts Tryz.prog 3 Tryz.f3 (al7 Rows.splitApartSpec).bare Rows.splitApartRow=true:=by
 simp only[joinedFacts,aiX]
 repeat' apply And.intro
 ·kernel_rfl
 ·exact j1
 ·exact j2
 ·kernel_rfl
 ·kernel_rfl
 ·kernel_rfl
 ·kernel_rfl
 ·kernel_rfl
 ·kernel_rfl
 ·exact j3
 ·exact j4
 ·exact j5
 ·exact j6
 all_goals kernel_rfl
theorem said:Rows.SplitApartSaid:=
 OpenClaim.holds_of_cond 3 Tryz.f3 rfl rfl rfl rfl rfl rfl rfl ⟨rfl,rfl,rfl,rfl,rfl⟩ rfl rfl rfl rfl rfl (by kernel_rfl) Tryz.func3 Ny
  (of_decide_eq_true (by kernel_rfl)) (by unfold Func.isWrapper;first|(rw[if_pos (by decide +kernel)];kernel_rfl) |(rw[if_neg (by decide +kernel)];exact⟨rfl,rfl⟩))
  (fun os started H enc _ F=>by rw[OpenClaim.pre_eq_preRow];exact lifted os started H enc F)
end Go.Proofs.YtodkiaiclgdifaaGreatDoor.splitApart
