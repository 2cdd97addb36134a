/- Part 6 of a proof by the abstract machine. -/
import Derived.Test.YtfeonbdbigcdcaaGreatDoorQ5
import Derived.KernelRfl
import Derived.Test.YtfeonbdbigcdcaaGreatDoorCards
import Derived.Test.YtfeonbdbigcdcaaGreatDoorTie
import Derived.OpenShut
set_option linter.unusedVariables false
set_option linter.unusedSimpArgs false
namespace Go.AM
theorem znr {w:List UInt8} (h:¬ kindOf w=0):w=wordL (kindOf w)∧1≤kindOf w∧kindOf w≤4∧(124:UInt8)∉w:=by
 unfold kindOf at h ⊢
 by_cases h1:w=[99]
 · subst h1; decide
 rw [if_neg h1] at h ⊢
 by_cases h2:w=[103]
 · subst h2; decide
 rw [if_neg h2] at h ⊢
 by_cases h3:w=[109,115]
 · subst h3; decide
 rw [if_neg h3] at h ⊢
 by_cases h4:w=[104]
 · subst h4; decide
 rw [if_neg h4] at h
 exact absurd rfl h
section
variable {X:Type} (kr:KRS X)
theorem zko {name value word:List UInt8} {d:DecL} (hn:nameOK name=true) (hv:(124:UInt8)∉value) (hp:parseR value=((d.1,d.2.1,d.2.2,()),(0,0,()),())) (hk:¬ kindOf word=0) (hg:¬ (kindOf word=2∧value.head? = some 45))
 {s rest:List UInt8} (hs:s=name++58::(value++124::(word++rest))) (hr:rest=[]∨rest.head? = some 124) :
 nameS kr s (seg 58 s) 1000000 [] 0 (decide (58∈s)) (nextP 58 s 0)=rateS kr s name (kindOf word) [d] 1000000 [] 0 (decide (rest.head? = some 124)) (name.length+1+value.length+1+word.length+(if rest.head? = some 124 then 1 else 0)):=by
 have hnf:=zpx hn
 obtain ⟨hw1,hw2,hw3,hw4⟩:=znr hk
 have h58:(58:UInt8)∈s:=by rw [hs]; simp
 have hseg:seg 58 s=name:=by rw [hs]; exact ze7 hnf _
 have hd0:s.drop 0=name++58::(value++124::(word++rest)):=hs
 obtain ⟨n1,n2⟩:=zey hd0 hnf
 rw [Nat.zero_add] at n1 n2
 have hm1:(124:UInt8)∈s.drop (name.length+1):=by rw [n2]; simp
 obtain ⟨m1,m2⟩:=zey n2 hv
 have hsv:seg 124 (s.drop (name.length+1))=value:=by rw [n2]; exact ze7 hv _
 have hname:(textF 1 name 1 200).1=0:=by unfold nameOK at hn; simpa using hn
 unfold nameS
 rw [hseg,if_neg (fun h=>h hname),decide_eq_true h58,if_neg (by simp),n1,hsv,m1,decide_eq_true hm1]
 unfold valueS
 rw [hp,if_neg (by simp),if_neg (by simp)]
 unfold kindS
 rcases hr with hr | hr
 · subst hr
   rw [List.append_nil] at m2
   have hsw:seg 124 (s.drop (name.length+1+value.length+1))=word:=by rw [m2]; exact za9 hw4
   have hm2:¬ (124:UInt8)∈s.drop (name.length+1+value.length+1):=by rw [m2]; exact hw4
   rw [hsw,if_neg hk,if_neg hg,decide_eq_false hm2,zpw m2 hw4]
   rfl
 · obtain ⟨t,ht⟩:∃ t,rest=124::t:=by
    cases rest with
    | nil=>simp at hr
    | cons b t=>exact ⟨t,by simp at hr; rw [hr]⟩
   subst ht
   have hsw:seg 124 (s.drop (name.length+1+value.length+1))=word:=by rw [m2]; exact ze7 hw4 _
   have hm2:(124:UInt8)∈s.drop (name.length+1+value.length+1):=by rw [m2]; simp
   rw [hsw,if_neg hk,if_neg hg,decide_eq_true hm2,(zey m2 hw4).1]
   rfl
theorem zur {name value word t:List UInt8} {s:List UInt8} (hs:s=name++58::(value++124::(word++124::t))):s.drop (name.length+1+value.length+1+word.length+1)=t∧s.length=name.length+1+value.length+1+word.length+1+t.length:=by
 subst hs
 refine ⟨?_,by simp; omega⟩
 rw [show name.length+1+value.length+1+word.length+1=name.length+(1+(value.length+(1+(word.length+1)))) from by omega,List.drop_append,List.drop_eq_nil_of_le (by omega),List.nil_append]
 rw [show name.length+(1+(value.length+(1+(word.length+1)))) - name.length=(value.length+(1+(word.length+1)))+1 from by omega,List.drop_succ_cons,List.drop_append,List.drop_eq_nil_of_le (by omega),List.nil_append,
  show value.length+(1+(word.length+1)) - value.length=word.length+1+1 from by omega,List.drop_succ_cons,List.drop_append,List.drop_eq_nil_of_le (by omega),List.nil_append,show word.length+1 - word.length=0+1 from by omega,List.drop_succ_cons,List.drop_zero]
end
abbrev OkR (name:List UInt8) (k:Int) (d:DecL) (r:Int):MetR:=((name,k,[d],r,[],0,()),(0,0,()),())
theorem zsj {name value word:List UInt8} {d:DecL} (hn:nameOK name=true) (hv:(124:UInt8)∉value) (hp:parseR value=((d.1,d.2.1,d.2.2,()),(0,0,()),())) (hk:¬ kindOf word=0) (hg:¬ (kindOf word=2∧value.head? = some 45)) :
 sdParse (name++58::(value++124::word))=some (OkR name (kindOf word) d 1000000):=by
 unfold sdParse
 have:=zko finK hn hv hp hk hg (s:=name++58::(value++124::word)) (rest:=[]) (by rw [List.append_nil]) (Or.inl rfl)
 rw [this]
 rfl
theorem zus {name value word:List UInt8} {d:DecL} (hn:nameOK name=true) (hv:(124:UInt8)∉value) (hp:parseR value=((d.1,d.2.1,d.2.2,()),(0,0,()),())) (hk:¬ kindOf word=0) (hg:¬ (kindOf word=2∧value.head? = some 45)) (t:List UInt8) :
 sdParse (name++58::(value++124::(word++124::t)))=some (if ¬ t.head? = some 64 then badM 11 ((name.length+1+value.length+1+word.length+1:Nat):Int)
  else if ¬ (rateR (seg 124 (t.drop 1))).2.1.1=0∨(kindOf word=2∧¬ (rateR (seg 124 (t.drop 1))).1=1000000) then badM 18 ((name.length+1+value.length+1+word.length+1+1:Nat):Int)
  else if 124∈t.drop 1 then badM 11 ((name.length+1+value.length+1+word.length+1+1+(seg 124 (t.drop 1)).length:Nat):Int)
  else OkR name (kindOf word) d (rateR (seg 124 (t.drop 1))).1):=by
 unfold sdParse
 generalize hs:name++58::(value++124::(word++124::t))=s
 have:=zko finK hn hv hp hk hg (s:=s) (rest:=124::t) hs.symm (Or.inr rfl)
 have hd:=(zur hs.symm).1
 rw [this]
 unfold rateS
 have h1:(if (124::t:List UInt8).head? = some 124 then 1 else 0)=1:=rfl
 have h2:decide ((124::t:List UInt8).head? = some 124)=true:=rfl
 have hd1:s.drop (name.length+1+value.length+1+word.length+1+1)=t.drop 1:=by rw [← List.drop_drop,hd]
 rw [h1,h2,if_neg (by simp),hd,hd1]
 repeat' split
 all_goals first | rfl | (exfalso; simp_all)
theorem zkp (s:List UInt8):(∃ c a:Int,sdParse s=some (badM c a)∧c≠0∧0≤a∧a≤s.length) ∨
 (∃ name value word tail d r,s=name++58::(value++124::(word++tail))∧nameOK name=true∧(124:UInt8)∉value∧parseR value=((d.1,d.2.1,d.2.2,()),(0,0,()),())∧¬ kindOf word=0∧¬ (kindOf word=2∧value.head? = some 45) ∧
  (tail=[]∧r=1000000∨∃ rt,tail=124::64::rt∧(rateR rt).2.1.1=0∧(rateR rt).1=r∧(kindOf word=2→r=1000000)∧(124:UInt8)∉rt)∧sdParse s=some (OkR name (kindOf word) d r)):=by
 by_cases hn:nameOK (seg 58 s)=true
 · by_cases h58:(58:UInt8)∈s
   · have hsp:=zbl h58
     have hlt:=za1 h58
     generalize hname:seg 58 s=name at *
     generalize ht:s.drop (name.length+1)=t at *
     have htl:t.length+(name.length+1)=s.length:=by rw [← ht]; simp; omega
     have hn0:¬ ¬ (textF 1 name 1 200).1=0:=by unfold nameOK at hn; simpa using hn
     have hq:nextP 58 s 0=name.length+1:=by unfold nextP; rw [List.drop_zero,if_pos h58,hname]; omega
     have e1:sdParse s=valueS finK s name (seg 124 t) (name.length+1) 1000000 [] 0 (decide (124∈t)) (nextP 124 s (name.length+1)):=by
      unfold sdParse nameS
      rw [hname,if_neg hn0,decide_eq_true h58,if_neg (by simp),hq,ht]
     by_cases hv:(parseR (seg 124 t)).2.1.1=0
     · by_cases hb:(124:UInt8)∈t
       · have hsp2:=zbl hb
         have hlt2:=za1 hb
         have hfree:=zds 124 t
         generalize hvalue:seg 124 t=value at *
         generalize ht2:t.drop (value.length+1)=t2 at *
         have hd2:s.drop (name.length+1+value.length+1)=t2:=by rw [Nat.add_assoc (name.length+1),← List.drop_drop,ht,ht2]
         have htl2:t2.length+(value.length+1)=t.length:=by rw [← ht2]; simp; omega
         have hq2:nextP 124 s (name.length+1)=name.length+1+value.length+1:=by unfold nextP; rw [ht,if_pos hb,hvalue]
         have e2:sdParse s=kindS finK s name (seg 124 t2) value (name.length+1:Nat) (name.length+1+value.length+1:Nat) [((parseR value).1.1,(parseR value).1.2.1,(parseR value).1.2.2.1)] 1000000 [] 0 (decide (124∈t2)) (nextP 124 s (name.length+1+value.length+1)):=by
          rw [e1]
          unfold valueS
          rw [if_neg (fun h=>h hv),decide_eq_true hb,if_neg (by simp),hq2,hd2]
         by_cases hk:kindOf (seg 124 t2)=0
         · left
           refine ⟨16,((name.length+1+value.length+1:Nat):Int),?_,by decide,by omega,by omega⟩
           rw [e2]
           unfold kindS
           rw [if_pos hk]; rfl
         by_cases hg:kindOf (seg 124 t2)=2∧value.head? = some 45
         · left
           refine ⟨26,((name.length+1:Nat):Int),?_,by decide,by omega,by omega⟩
           rw [e2]
           unfold kindS
           rw [if_neg hk,if_pos hg]; rfl
         have hat:=zb0 hv
         have hp:parseR value=(((((parseR value).1.1,(parseR value).1.2.1,(parseR value).1.2.2.1):DecL).1,(parseR value).1.2.1,(parseR value).1.2.2.1,()),(0,0,()),()):=by
          generalize parseR value=z at hv hat
          obtain ⟨⟨a,b,c,_⟩,⟨x,y,_⟩,_⟩:=z
          simp only at hv hat
          subst hv hat
          rfl
         by_cases hb2:(124:UInt8)∈t2
         · have hsp3:=zbl hb2
           generalize hword:seg 124 t2=word at *
           generalize ht3:t2.drop (word.length+1)=t3 at *
           have hlt3:word.length+1+t3.length=t2.length:=by
            have:=congrArg List.length hsp3
            simp at this
            omega
           have hs:s=name++58::(value++124::(word++124::t3)):=by rw [← hsp3,← hsp2,← hsp]
           have L:=zus hn hfree hp hk hg t3
           rw [← hs] at L
           by_cases c1:t3.head? = some 64
           · rw [if_neg (fun h=>h c1)] at L
             obtain ⟨t4,ht4⟩:∃ t4,t3=64::t4:=by
              cases t3 with
              | nil=>simp at c1
              | cons b t=>exact ⟨t,by simp at c1; rw [c1]⟩
             subst ht4
             simp only [List.drop_succ_cons,List.drop_zero,List.length_cons] at L hlt3
             by_cases c2:¬ (rateR (seg 124 t4)).2.1.1=0∨(kindOf word=2∧¬ (rateR (seg 124 t4)).1=1000000)
             · rw [if_pos c2] at L
               exact Or.inl ⟨18,_,L,by decide,by omega,by omega⟩
             rw [if_neg c2] at L
             by_cases c3:(124:UInt8)∈t4
             · rw [if_pos c3] at L
               have:=za1 c3
               exact Or.inl ⟨11,_,L,by decide,by omega,by omega⟩
             rw [if_neg c3,za9 c3] at L
             rw [za9 c3] at c2
             refine Or.inr ⟨name,value,word,124::64::t4,_,_,hs,hn,hfree,hp,hk,hg,Or.inr ⟨t4,rfl,?_,rfl,fun h2 => ?_,c3⟩,L⟩
             · exact Classical.byContradiction fun h=>c2 (Or.inl h)
             · exact Classical.byContradiction fun h=>c2 (Or.inr ⟨h2,h⟩)
           · rw [if_pos c1] at L
             exact Or.inl ⟨11,_,L,by decide,by omega,by omega⟩
         · have hw:seg 124 t2=t2:=za9 hb2
           rw [hw] at hk hg
           have hs:s=name++58::(value++124::(t2++[])):=by rw [List.append_nil,← hsp2,← hsp]
           have L:=zsj hn hfree hp hk hg
           have hs':=hs
           rw [List.append_nil] at hs'
           rw [← hs'] at L
           exact Or.inr ⟨name,value,t2,[],_,_,hs,hn,hfree,hp,hk,hg,Or.inl ⟨rfl,rfl⟩,L⟩
       · left
         refine ⟨11,(s.length:Int),?_,by decide,by omega,by omega⟩
         rw [e1]
         unfold valueS
         rw [if_neg (fun h=>h hv),decide_eq_false hb,if_pos rfl]; rfl
     · left
       refine ⟨17,((name.length+1:Nat):Int),?_,by decide,by omega,by omega⟩
       rw [e1]
       unfold valueS
       rw [if_pos hv]; rfl
   · left
     refine ⟨11,(s.length:Int),?_,by decide,by omega,by omega⟩
     unfold sdParse nameS
     have hn0:¬ ¬ (textF 1 (seg 58 s) 1 200).1=0:=by unfold nameOK at hn; simpa using hn
     rw [if_neg hn0,decide_eq_false h58,if_pos rfl]; rfl
 · left
   refine ⟨15,0,?_,by decide,by omega,by omega⟩
   unfold sdParse nameS
   rw [if_pos (fun h=>hn (by unfold nameOK; simp [h]))]; rfl
end Go.AM
set_option linter.unusedVariables false
set_option linter.unusedSimpArgs false
namespace Go.AM
def parseNum (s:List UInt8) (lo hi:Int):NumR:=
 if s=[] then numR 0 13 0 else if 0≤badK isDig 0 s then numR 0 14 (badK isDig 0 s) else if s.head? = some 48∧1<s.length then numR 0 11 0
 else if 9223372036854775808≤val s∨(val s:Int)<lo∨(val s:Int)>hi then numR 0 10 0 else numR (val s) 0 0
theorem zvj (n:Nat) {s:List UInt8} (hd:Digs s) (hn:s≠[]) (hs:s.length≤1000000):O.atoi n s=some (if val s<9223372036854775808 then ((val s:Int),false,()) else (Lib.atoiSat s,true,())):=by
 unfold O.atoi
 have:Nat.ble s.length big47=true:=by rw [Nat.ble_eq]; unfold big47; omega
 rw [this,cond_true,zph hd hn]
 by_cases h:val s<9223372036854775808
 · rw [if_pos h,if_pos h]
 · rw [if_neg h,if_neg h]
theorem zpy (n:Nat) (s:List UInt8) (lo hi:Int) (hs:s.length≤1000000) (hn:s.length<n):F.za0 n s lo hi=some (parseNum s lo hi):=by
 unfold F.za0 parseNum
 rw [zbe n 4 s _ _ (by omega) hn,za,textF4 s (by omega)]
 by_cases h0:s=[]
 · rw [if_pos h0,if_pos h0]; rfl
 rw [if_neg h0,if_neg h0]
 by_cases h1:0≤badK isDig 0 s
 · rw [if_pos h1,if_pos h1]; rfl
 rw [if_neg h1,if_neg h1]
 have e:(!((0:Int)==0&&(0:Int)==0))=false:=rfl
 simp only [e,cond_false]
 have hd:=zbu h1
 cases s with
 | nil=>exact absurd rfl h0
 | cons b r =>
  have ei:idx (b::r) (0:Int)=some b:=rfl
  rw [ei,za,zvj n hd h0 hs,za]
  have tail:∀ (p:Bool) (A:Option NumR),(bif p then A else A)=A:=by intro p A; cases p<;>rfl
  have core:(bif (if val (b::r)<9223372036854775808 then ((val (b::r):Int),false,()) else (Lib.atoiSat (b::r),true,())).2.1 then (F.z8 n 10 0).bind fun y6=>some ((y6.1,(y6.2.1.1,y6.2.1.2.1,()),()))
   else bif decide ((if val (b::r)<9223372036854775808 then ((val (b::r):Int),false,()) else (Lib.atoiSat (b::r),true,())).1<lo) then (F.z8 n 10 0).bind fun y6=>some ((y6.1,(y6.2.1.1,y6.2.1.2.1,()),()))
   else bif decide ((if val (b::r)<9223372036854775808 then ((val (b::r):Int),false,()) else (Lib.atoiSat (b::r),true,())).1>hi) then (F.z8 n 10 0).bind fun y6=>some ((y6.1,(y6.2.1.1,y6.2.1.2.1,()),()))
   else some (((if val (b::r)<9223372036854775808 then ((val (b::r):Int),false,()) else (Lib.atoiSat (b::r),true,())).1,((0:Int),(0:Int),()),())))
   = some (if 9223372036854775808≤val (b::r)∨(val (b::r):Int)<lo∨(val (b::r):Int)>hi then numR 0 10 0 else numR (val (b::r)) 0 0):=by
   by_cases hv:val (b::r)<9223372036854775808
   · rw [if_pos hv]
     simp only [cond_false]
     by_cases g1:(val (b::r):Int)<lo
     · rw [zf g1,if_pos (Or.inr (Or.inl g1))]; rfl
     · rw [zg g1]
       by_cases g2:(val (b::r):Int)>hi
       · rw [zf g2,if_pos (Or.inr (Or.inr g2))]; rfl
       · rw [zg g2,if_neg (by omega)]; rfl
   · rw [if_neg hv,if_pos (Or.inl (by omega))]; rfl
  by_cases hb:b=48
  · subst hb
    have e2:((((48:UInt8).toNat:Nat):Int)==48)=true:=rfl
    rw [e2,cond_true]
    by_cases hl:1<(48::r).length
    · rw [zf (by omega),if_pos (show (48::r).head? = some 48∧1<(48::r).length from ⟨rfl,hl⟩)]; rfl
    · rw [zg (by omega),if_neg (show ¬ ((48::r).head? = some 48∧1<(48::r).length) from fun h=>hl h.2)]; exact core
  · have e2:((b.toNat:Int)==48)=false:=by
     have:¬ (b.toNat:Int)=48:=fun h=>hb (zkc (by simp; omega))
     simpa using this
    rw [e2,cond_false,if_neg (show ¬ ((b::r).head? = some 48∧1<(b::r).length) from fun h=>hb (by simpa using h.1))]; exact core
theorem zmm (n:Nat) (s:List UInt8) (hs:s.length≤1000000) (hn:s.length<n):F.zav n s=some (parseNum s 1 1099511627776):=by
 unfold F.zav
 rw [zpy n s _ _ hs hn,za]
theorem zdt {s:List UInt8} {lo hi:Int} (h:(parseNum s lo hi).2.1.1=0):(parseNum s lo hi).2.1.2.1=0∧(parseNum s lo hi).1=(val s:Int)∧val s<9223372036854775808∧lo≤(val s:Int)∧(val s:Int)≤hi∧Digs s∧Norm s:=by
 unfold parseNum at h ⊢
 by_cases h0:s=[]
 · rw [if_pos h0] at h; cases h
 rw [if_neg h0] at h ⊢
 by_cases h1:0≤badK isDig 0 s
 · rw [if_pos h1] at h; cases h
 rw [if_neg h1] at h ⊢
 by_cases h2:s.head? = some 48∧1<s.length
 · rw [if_pos h2] at h; cases h
 rw [if_neg h2] at h ⊢
 by_cases h3:9223372036854775808≤val s∨(val s:Int)<lo∨(val s:Int)>hi
 · rw [if_pos h3] at h; cases h
 rw [if_neg h3]
 refine ⟨rfl,rfl,by omega,by omega,by omega,zbu h1,h0,fun h => ?_⟩
 have h4:¬ 1<s.length:=fun hl=>h2 ⟨h,hl⟩
 have:0<s.length:=List.length_pos_iff.2 h0
 omega
end Go.AM
set_option linter.unusedVariables false
set_option linter.unusedSimpArgs false
namespace Go.AM
theorem zsk (x y:DecL):((x.1==y.1)&&((x.2.1==y.2.1)&&(x.2.2==y.2.2)))=decide (x=y):=by
 obtain ⟨a,b,c⟩:=x
 obtain ⟨a',b',c'⟩:=y
 by_cases h:((a,b,c):DecL)=(a',b',c')
 · rw [decide_eq_true h]
   simp only [Prod.mk.injEq] at h
   simp [h.1,h.2.1,h.2.2]
 · rw [decide_eq_false h]
   cases h1:(a==a')&&((b==b')&&(c==c')) with
   | false=>rfl
   | true =>
    simp only [Bool.and_eq_true,beq_iff_eq] at h1
    exact absurd (by rw [h1.1,h1.2.1,h1.2.2]) h
theorem zkq (x y:TagL):((x.1==y.1)&&(x.2==y.2))=decide (x=y):=by
 obtain ⟨a,b⟩:=x
 obtain ⟨a',b'⟩:=y
 by_cases h:((a,b):TagL)=(a',b')
 · rw [decide_eq_true h]
   simp only [Prod.mk.injEq] at h
   simp [h.1,h.2]
 · rw [decide_eq_false h]
   cases h1:(a==a')&&(b==b') with
   | false=>rfl
   | true =>
    simp only [Bool.and_eq_true,beq_iff_eq] at h1
    exact absurd (by rw [h1.1,h1.2]) h
theorem zns (n:Nat) (X:Type) (k0:List UInt8→Int→List DecL→Int→List TagL→Int→List UInt8→Int→List DecL→Int→List TagL→Int→Option X) (kr:Bool→List UInt8→Int→List DecL→Int→List TagL→Int→List UInt8→Int→List DecL→Int→List TagL→Int→Option X) (nm:List UInt8) (k:Int) (vs:List DecL) (r:Int) (ts:List TagL) (t:Int) (hs:vs.length≤10000):∀ (j i m:Nat),i+j=vs.length→j<m →
 F.zh.L4 n k0 kr m (i:Int) nm k vs r ts t nm k vs r ts t=k0 nm k vs r ts t nm k vs r ts t:=by
 intro j
 induction j with
 | zero =>
  intro i m hi hm
  obtain ⟨m,rfl⟩:∃ q,m=q+1:=⟨m - 1,by omega⟩
  show F.zh.L4.step n (F.zh.L4 n k0 kr m) k0 kr _ _ _ _ _ _ _ _ _ _ _ _ _=_
  unfold F.zh.L4.step
  rw [zg (by omega)]
 | succ j ih =>
  intro i m hi hm
  obtain ⟨m,rfl⟩:∃ q,m=q+1:=⟨m - 1,by omega⟩
  show F.zh.L4.step n (F.zh.L4 n k0 kr m) k0 kr _ _ _ _ _ _ _ _ _ _ _ _ _=_
  unfold F.zh.L4.step
  rw [zf (by omega),za7 (by omega:i<vs.length),za,za,zsk,decide_eq_true rfl,Bool.not_true,cond_false,zi (by omega),ih (i+1) m (by omega) (by omega)]
theorem znt (n:Nat) (X:Type) (k0:List UInt8→Int→List DecL→Int→List TagL→Int→List UInt8→Int→List DecL→Int→List TagL→Int→Option X) (kr:Bool→List UInt8→Int→List DecL→Int→List TagL→Int→List UInt8→Int→List DecL→Int→List TagL→Int→Option X) (nm:List UInt8) (k:Int) (vs:List DecL) (r:Int) (ts:List TagL) (t:Int) (hs:ts.length≤10000):∀ (j i m:Nat),i+j=ts.length→j<m →
 F.zh.L9 n k0 kr m (i:Int) nm k vs r ts t nm k vs r ts t=k0 nm k vs r ts t nm k vs r ts t:=by
 intro j
 induction j with
 | zero =>
  intro i m hi hm
  obtain ⟨m,rfl⟩:∃ q,m=q+1:=⟨m - 1,by omega⟩
  show F.zh.L9.step n (F.zh.L9 n k0 kr m) k0 kr _ _ _ _ _ _ _ _ _ _ _ _ _=_
  unfold F.zh.L9.step
  rw [zg (by omega)]
 | succ j ih =>
  intro i m hi hm
  obtain ⟨m,rfl⟩:∃ q,m=q+1:=⟨m - 1,by omega⟩
  show F.zh.L9.step n (F.zh.L9 n k0 kr m) k0 kr _ _ _ _ _ _ _ _ _ _ _ _ _=_
  unfold F.zh.L9.step
  rw [zf (by omega),za7 (by omega:i<ts.length),za,za,zkq,decide_eq_true rfl,Bool.not_true,cond_false,zi (by omega),ih (i+1) m (by omega) (by omega)]
theorem zi8 (n:Nat) (hn:200000≤n) (a:MetD) (h1:a.2.2.1.length≤10000) (h2:a.2.2.2.2.1.length≤10000):F.zh n a a=some true:=by
 obtain ⟨nm,k,vs,r,ts,t,_⟩:=a
 simp only at h1 h2
 unfold F.zh
 simp only [beq_self_eq_true,Bool.not_true,cond_false]
 refine (zns n Bool _ _ nm k vs r ts t h1 vs.length 0 n (by omega) (by omega)).trans ?_
 exact znt n Bool _ _ nm k vs r ts t h2 ts.length 0 n (by omega) (by omega)
end Go.AM
set_option linter.unusedVariables false
set_option linter.unusedSimpArgs false
namespace Go.AM
theorem zsl {s:List UInt8} (h:(parseR s).2.1.1=0):∃ (neg:Bool) (c:Nat) (e:Int),parseR s=((neg,(c:Int),e,()),(0,0,()),())∧c<two64∧(-9223372036854775808≤e∧e≤9223372036854775807)∧checkR neg c e=0:=by
 rcases zlr s with ⟨h1,_⟩ | h1
 · exact absurd h h1
 · exact h1
end Go.AM
set_option linter.unusedVariables false
set_option linter.unusedSimpArgs false
namespace Go.AM
abbrev timeR (s:List UInt8):NumR:=parseNum s 1 1099511627776
abbrev OkG (name:List UInt8) (d:DecL) (t:Int):MetR:=((name,2,[d],1000000,[],t,()),(0,0,()),())
def timeS (name:List UInt8) (d:DecL) (u:List UInt8) (p:Nat):MetR:=
 if ¬ (timeR (seg 32 u)).2.1.1=0 then badM 20 (p:Int) else if 32∈u then badM 11 ((p+(seg 32 u).length:Nat):Int) else OkG name d (timeR (seg 32 u)).1
def valueG (name:List UInt8) (u:List UInt8) (p:Nat):MetR:=
 if ¬ (parseR (seg 32 u)).2.1.1=0 then badM 17 (p:Int) else if ¬ 32∈u then badM 11 ((p+(seg 32 u).length:Nat):Int)
 else timeS name ((parseR (seg 32 u)).1.1,(parseR (seg 32 u)).1.2.1,(parseR (seg 32 u)).1.2.2.1) (u.drop ((seg 32 u).length+1)) (p+(seg 32 u).length+1)
def grParse (s:List UInt8):MetR:=
 if nameOK (seg 32 s)=false then badM 15 0 else if ¬ 32∈s then badM 11 ((seg 32 s).length:Int) else valueG (seg 32 s) (s.drop ((seg 32 s).length+1)) ((seg 32 s).length+1)
theorem zls {s:List UInt8} {lo hi:Int} (h:(parseNum s lo hi).2.1.1=0):(parseNum s lo hi).2.1.2.1=0:=(zdt h).1
theorem zft {c a:Int} (h:c=0→a=0):(!((c==0)&&(a==0))) = !(c==0):=by
 by_cases hc:c=0
 · rw [hc,h hc]; rfl
 · rw [beq_eq_false_iff_ne.2 hc]; rfl
section
variable {X:Type} (n:Nat) (rec:Int→Int→Bool→List UInt8→Int→List DecL→Int→List TagL→Int→Int→Int→List UInt8→Int→List DecL→Int→List TagL→Int→Int→Int→List UInt8→Nat→Nat→Nat→Nat→Option X)
 (k0 kr:List UInt8→Int→List DecL→Int→List TagL→Int→Int→Int→List UInt8→Int→List DecL→Int→List TagL→Int→Int→Int→List UInt8→Nat→Nat→Nat→Nat→Option X)
 (b0:List UInt8) (b1:Int) (b2:List DecL) (b3:Int) (b4:List TagL) (b5 b6 b7:Int) (nm:List UInt8) (kd:Int) (vs:List DecL) (rt:Int) (ts:List TagL) (tm c a:Int) (s:List UInt8) (i0 i1 i2 i3:Nat)
theorem zvs (p i:Int):F.zi.L2_graphite_cut_1.step n rec k0 kr p i false b0 b1 b2 b3 b4 b5 b6 b7 nm kd vs rt ts tm c a s i0 i1 i2 i3=k0 b0 b1 b2 b3 b4 b5 b6 b7 nm kd vs rt ts tm c a s i0 i1 i2 i3:=rfl
theorem zsm (hn:200000≤n) (p:Nat) (hp:p≤s.length) (hs:s.length≤10000) :
 F.zi.L2_graphite_cut_1.step n rec k0 kr (p:Int) 0 true b0 b1 b2 b3 b4 b5 b6 b7 nm kd vs rt ts tm c a s i0 i1 i2 i3 =
  (if nameOK (seg 32 (s.drop p))=false then kr b0 b1 b2 b3 b4 b5 b6 b7 (seg 32 (s.drop p)) kd vs rt ts tm 15 (p:Int) s i0 i1 i2 i3
  else if ¬ 32∈s.drop p then kr b0 b1 b2 b3 b4 b5 b6 b7 (seg 32 (s.drop p)) kd vs rt ts tm 11 ((p+(seg 32 (s.drop p)).length:Nat):Int) s i0 i1 i2 i3
  else rec ((p+(seg 32 (s.drop p)).length+1:Nat):Int) 1 true b0 b1 b2 b3 b4 b5 b6 b7 (seg 32 (s.drop p)) kd vs rt ts tm c a s i0 i1 i2 i3):=by
 unfold F.zi.L2_graphite_cut_1.step
 have hl:=zak 32 (s.drop p)
 simp only [List.length_drop] at hl
 rw [cond_true,zaj hp,za,zbo n 32 (by simp; omega),za]
 simp only [beq_self_eq_true,cond_true]
 rw [zbe n 1 _ 1 200 (by omega) (by omega),za,zdr]
 have e1:((textF 1 (seg 32 (s.drop p)) 1 200).1==0)=nameOK (seg 32 (s.drop p)):=rfl
 have w1:IntKind.wrap .i64 ((p:Int)+((seg 32 (s.drop p)).length:Int))=((p+(seg 32 (s.drop p)).length:Nat):Int):=by rw [ze (by omega)]; omega
 have w2:IntKind.wrap .i64 ((p:Int)+(IntKind.wrap .i64 (((seg 32 (s.drop p)).length:Int)+(1:Int))))=((p+(seg 32 (s.drop p)).length+1:Nat):Int):=by rw [ze (x:=((seg 32 (s.drop p)).length:Int)+1) (by omega),ze (by omega)]; omega
 have w3:IntKind.wrap .i64 ((0:Int)+1)=1:=rfl
 rw [e1,w1,w2,w3]
 cases nameOK (seg 32 (s.drop p))
 · rfl
 · have d2:decide ((0:Int)<2)=true:=rfl
   rw [Bool.not_true,cond_false,if_neg (by simp),d2]
   by_cases hm:32∈s.drop p
   · rw [decide_eq_true hm,if_neg (fun h=>h hm)]; rfl
   · rw [decide_eq_false hm,if_pos hm]; rfl
theorem zsn (hn:200000≤n) (p:Nat) (hp:p≤s.length) (hs:s.length≤10000) :
 F.zi.L2_graphite_cut_1.step n rec k0 kr (p:Int) 1 true b0 b1 b2 b3 b4 b5 b6 b7 nm kd vs rt ts tm c a s i0 i1 i2 i3 =
  (if ¬ (parseR (seg 32 (s.drop p))).2.1.1=0 then kr b0 b1 b2 b3 b4 b5 b6 b7 nm kd vs rt ts tm 17 (p:Int) s i0 i1 i2 i3
  else if ¬ 32∈s.drop p then kr b0 b1 b2 b3 b4 b5 b6 b7 nm kd [((parseR (seg 32 (s.drop p))).1.1,(parseR (seg 32 (s.drop p))).1.2.1,(parseR (seg 32 (s.drop p))).1.2.2.1)] rt ts tm 11 ((p+(seg 32 (s.drop p)).length:Nat):Int) s i0 i1 1 i3
  else rec ((p+(seg 32 (s.drop p)).length+1:Nat):Int) 2 true b0 b1 b2 b3 b4 b5 b6 b7 nm kd [((parseR (seg 32 (s.drop p))).1.1,(parseR (seg 32 (s.drop p))).1.2.1,(parseR (seg 32 (s.drop p))).1.2.2.1)] rt ts tm c a s i0 i1 1 i3):=by
 unfold F.zi.L2_graphite_cut_1.step
 have hl:=zak 32 (s.drop p)
 simp only [List.length_drop] at hl
 rw [cond_true,zaj hp,za,zbo n 32 (by simp; omega),za]
 have g1:((1:Int)==0)=false:=rfl
 simp only [beq_self_eq_true,cond_true,g1,cond_false]
 have w1:IntKind.wrap .i64 ((p:Int)+((seg 32 (s.drop p)).length:Int))=((p+(seg 32 (s.drop p)).length:Nat):Int):=by rw [ze (by omega)]; omega
 have w2:IntKind.wrap .i64 ((p:Int)+(IntKind.wrap .i64 (((seg 32 (s.drop p)).length:Int)+(1:Int))))=((p+(seg 32 (s.drop p)).length+1:Nat):Int):=by rw [ze (x:=((seg 32 (s.drop p)).length:Int)+1) (by omega),ze (by omega)]; omega
 have w3:IntKind.wrap .i64 ((1:Int)+1)=2:=rfl
 rw [zcs n hn _ (by omega),za,zft (fun h=>zb0 h),w1,w2,w3]
 by_cases h0:(parseR (seg 32 (s.drop p))).2.1.1=0
 · have e0:((parseR (seg 32 (s.drop p))).2.1.1==0)=true:=by simp [h0]
   have d2:decide ((1:Int)<2)=true:=rfl
   rw [e0,Bool.not_true,cond_false,if_neg (fun h=>h h0),d2]
   by_cases hm:32∈s.drop p
   · rw [decide_eq_true hm,if_neg (fun h=>h hm)]; rfl
   · rw [decide_eq_false hm,if_pos hm]; rfl
 · have e0:((parseR (seg 32 (s.drop p))).2.1.1==0)=false:=by simpa using h0
   rw [e0,if_pos h0]; rfl
theorem zso (hn:200000≤n) (p:Nat) (hp:p≤s.length) (hs:s.length≤10000) :
 F.zi.L2_graphite_cut_1.step n rec k0 kr (p:Int) 2 true b0 b1 b2 b3 b4 b5 b6 b7 nm kd vs rt ts tm c a s i0 i1 i2 i3 =
  (if ¬ (timeR (seg 32 (s.drop p))).2.1.1=0 then kr b0 b1 b2 b3 b4 b5 b6 b7 nm kd vs rt ts tm 20 (p:Int) s i0 i1 i2 i3
  else if 32∈s.drop p then kr b0 b1 b2 b3 b4 b5 b6 b7 nm kd vs rt ts (timeR (seg 32 (s.drop p))).1 11 ((p+(seg 32 (s.drop p)).length:Nat):Int) s i0 i1 i2 i3
  else rec ((p+(seg 32 (s.drop p)).length+1:Nat):Int) 3 false b0 b1 b2 b3 b4 b5 b6 b7 nm kd vs rt ts (timeR (seg 32 (s.drop p))).1 c a s i0 i1 i2 i3):=by
 unfold F.zi.L2_graphite_cut_1.step
 have hl:=zak 32 (s.drop p)
 simp only [List.length_drop] at hl
 rw [cond_true,zaj hp,za,zbo n 32 (by simp; omega),za]
 have g1:((2:Int)==0)=false:=rfl
 have g2:((2:Int)==1)=false:=rfl
 simp only [g1,g2,cond_false]
 have w1:IntKind.wrap .i64 ((p:Int)+((seg 32 (s.drop p)).length:Int))=((p+(seg 32 (s.drop p)).length:Nat):Int):=by rw [ze (by omega)]; omega
 have w2:IntKind.wrap .i64 ((p:Int)+(IntKind.wrap .i64 (((seg 32 (s.drop p)).length:Int)+(1:Int))))=((p+(seg 32 (s.drop p)).length+1:Nat):Int):=by rw [ze (x:=((seg 32 (s.drop p)).length:Int)+1) (by omega),ze (by omega)]; omega
 have w3:IntKind.wrap .i64 ((2:Int)+1)=3:=rfl
 rw [zmm n _ (by omega) (by omega),za,zft (fun h=>zls h),w1,w2,w3]
 by_cases h0:(timeR (seg 32 (s.drop p))).2.1.1=0
 · have e0:((timeR (seg 32 (s.drop p))).2.1.1==0)=true:=by simp [h0]
   have d2:decide ((2:Int)<2)=false:=rfl
   rw [e0,Bool.not_true,cond_false,if_neg (fun h=>h h0),d2]
   by_cases hm:32∈s.drop p
   · rw [decide_eq_true hm,if_pos hm]; rfl
   · rw [decide_eq_false hm,if_neg hm]; rfl
 · have e0:((timeR (seg 32 (s.drop p))).2.1.1==0)=false:=by simpa using h0
   rw [e0,if_pos h0]; rfl
end
theorem znu (n:Nat) (hn:200000≤n) (s:List UInt8) (hs:s.length≤10000):F.zi n s=some (grParse s):=by
 unfold F.zi
 generalize hk0:(fun (e6_b0_0:List UInt8) (e6_b0_1:Int) (e6_b0_2:List DecL) (e6_b0_3:Int) (e6_b0_4:List TagL) (e6_b0_5 e6_b1_0 e6_b1_1:Int) (e6_b2_0:List UInt8) (e6_b2_1:Int) (e6_b2_2:List DecL) (e6_b2_3:Int) (e6_b2_4:List TagL) (e6_b2_5 e6_b3_0 e6_b3_1:Int) (e6_b4_0:List UInt8) (e6_k0 e6_k1 e6_k2 e6_k3:Nat) =>
  bif !((e6_b3_0==(0:Int))&&(e6_b3_1==(0:Int))) then
   some (((([],(0:Int),[],(0:Int),[],(0:Int),()),(e6_b3_0,e6_b3_1,()),()):MetR))
  else
   some (((e6_b2_0,e6_b2_1,e6_b2_2,e6_b2_3,e6_b2_4,e6_b2_5,()),(e6_b3_0,e6_b3_1,()),())))=k0
 have hbad:∀ (b0:List UInt8) (b1:Int) (b2:List DecL) (b3:Int) (b4:List TagL) (b5 b6 b7:Int) (nm:List UInt8) (kd:Int) (vs:List DecL) (rt:Int) (ts:List TagL) (tm c a:Int) (s:List UInt8) (i0 i1 i2 i3:Nat),¬ c=0→k0 b0 b1 b2 b3 b4 b5 b6 b7 nm kd vs rt ts tm c a s i0 i1 i2 i3=some (badM c a):=by
  intro b0 b1 b2 b3 b4 b5 b6 b7 nm kd vs rt ts tm c a s i0 i1 i2 i3 hc
  rw [← hk0]
  simp only
  rw [beq_eq_false_iff_ne.2 hc]; rfl
 have hok:∀ (b0:List UInt8) (b1:Int) (b2:List DecL) (b3:Int) (b4:List TagL) (b5 b6 b7:Int) (nm:List UInt8) (kd:Int) (vs:List DecL) (rt:Int) (ts:List TagL) (tm:Int) (s:List UInt8) (i0 i1 i2 i3:Nat),k0 b0 b1 b2 b3 b4 b5 b6 b7 nm kd vs rt ts tm 0 0 s i0 i1 i2 i3=some ((nm,kd,vs,rt,ts,tm,()),(0,0,()),()):=by
  intro b0 b1 b2 b3 b4 b5 b6 b7 nm kd vs rt ts tm s i0 i1 i2 i3
  rw [← hk0]; rfl
 obtain ⟨q,hq⟩:∃ q,n=q+1+1+1+1:=⟨n - 4,by omega⟩
 have st:∀ m p i b b0 b1 b2 b3 b4 b5 b6 b7 nm kd vs rt ts tm c a s i0 i1 i2 i3,F.zi.L2_graphite_cut_1 n k0 k0 (m+1) p i b b0 b1 b2 b3 b4 b5 b6 b7 nm kd vs rt ts tm c a s i0 i1 i2 i3=F.zi.L2_graphite_cut_1.step n (F.zi.L2_graphite_cut_1 n k0 k0 m) k0 k0 p i b b0 b1 b2 b3 b4 b5 b6 b7 nm kd vs rt ts tm c a s i0 i1 i2 i3:=fun _ _ _ _ _ _ _ _ _ _ _ _ _ _ _ _ _ _ _ _ _ _ _ _ _=>rfl
 have key:F.zi.L2_graphite_cut_1 n k0 k0 (q+1+1+1+1) 0 0 true [] 0 [] 0 [] 0 0 0 [] 2 [] 1000000 [] 0 0 0 s 0 0 0 0=some (grParse s):=by
  have hl:=zak 32 s
  have r0:=zsm n (F.zi.L2_graphite_cut_1 n k0 k0 (q+1+1+1)) k0 k0 [] 0 [] 0 [] 0 0 0 [] 2 [] 1000000 [] 0 0 0 s 0 0 0 0 hn 0 (by omega) hs
  rw [st]
  refine r0.trans ?_
  rw [List.drop_zero,Nat.zero_add]
  unfold grParse
  by_cases h1:nameOK (seg 32 s)=false
  · rw [if_pos h1,if_pos h1]; exact hbad _ _ _ _ _ _ _ _ _ _ _ _ _ _ _ _ _ _ _ _ _ (by decide)
  rw [if_neg h1,if_neg h1]
  by_cases h2:¬ 32∈s
  · rw [if_pos h2,if_pos h2]; exact hbad _ _ _ _ _ _ _ _ _ _ _ _ _ _ _ _ _ _ _ _ _ (by decide)
  rw [if_neg h2,if_neg h2]
  have hlt:=za1 (Classical.not_not.1 h2)
  generalize hA:(seg 32 s).length=A at *
  have hl2:=zak 32 (s.drop (A+1))
  simp only [List.length_drop] at hl2
  rw [st,zsn n _ k0 k0 _ _ _ _ _ _ _ _ _ _ _ _ _ _ _ _ s _ _ _ _ hn (A+1) (by omega) hs]
  unfold valueG
  by_cases h3:¬ (parseR (seg 32 (s.drop (A+1)))).2.1.1=0
  · rw [if_pos h3,if_pos h3]; exact hbad _ _ _ _ _ _ _ _ _ _ _ _ _ _ _ _ _ _ _ _ _ (by decide)
  rw [if_neg h3,if_neg h3]
  by_cases h4:¬ 32∈s.drop (A+1)
  · rw [if_pos h4,if_pos h4]; exact hbad _ _ _ _ _ _ _ _ _ _ _ _ _ _ _ _ _ _ _ _ _ (by decide)
  rw [if_neg h4,if_neg h4]
  have hlt2:=za1 (Classical.not_not.1 h4)
  simp only [List.length_drop] at hlt2
  have hd2:(s.drop (A+1)).drop ((seg 32 (s.drop (A+1))).length+1)=s.drop (A+1+(seg 32 (s.drop (A+1))).length+1):=by rw [List.drop_drop]; rfl
  rw [hd2]
  generalize hB:A+1+(seg 32 (s.drop (A+1))).length=B at *
  rw [st,zso n _ k0 k0 _ _ _ _ _ _ _ _ _ _ _ _ _ _ _ _ s _ _ _ _ hn (B+1) (by omega) hs]
  unfold timeS
  by_cases h5:¬ (timeR (seg 32 (s.drop (B+1)))).2.1.1=0
  · rw [if_pos h5,if_pos h5]; exact hbad _ _ _ _ _ _ _ _ _ _ _ _ _ _ _ _ _ _ _ _ _ (by decide)
  rw [if_neg h5,if_neg h5]
  by_cases h6:32∈s.drop (B+1)
  · rw [if_pos h6,if_pos h6]; exact hbad _ _ _ _ _ _ _ _ _ _ _ _ _ _ _ _ _ _ _ _ _ (by decide)
  rw [if_neg h6,if_neg h6,st,zvs]
  exact hok _ _ _ _ _ _ _ _ _ _ _ _ _ _ _ _ _ _ _
 rw [← hq] at key
 exact key
end Go.AM
set_option linter.unusedVariables false
set_option linter.unusedSimpArgs false
namespace Go.AM
theorem zsp (s:List UInt8):(∃ c a:Int,grParse s=badM c a∧c≠0∧0≤a∧a≤s.length) ∨
 (∃ name value time d,s=name++32::(value++32::time)∧nameOK name=true∧(32:UInt8)∉name∧(32:UInt8)∉value∧(32:UInt8)∉time∧parseR value=((d.1,d.2.1,d.2.2,()),(0,0,()),())∧(timeR time).2.1.1=0∧grParse s=OkG name d (timeR time).1):=by
 unfold grParse
 have hl:=zak 32 s
 by_cases h1:nameOK (seg 32 s)=false
 · rw [if_pos h1]
   exact Or.inl ⟨15,0,rfl,by decide,by omega,by omega⟩
 rw [if_neg h1]
 by_cases h2:¬ 32∈s
 · rw [if_pos h2]
   exact Or.inl ⟨11,_,rfl,by decide,by omega,by omega⟩
 rw [if_neg h2]
 have h2':=Classical.not_not.1 h2
 have hsp:=zbl h2'
 have hfr:=zds 32 s
 have hlen:=congrArg List.length hsp
 simp only [List.length_append,List.length_cons] at hlen
 generalize seg 32 s=name at *
 generalize s.drop (name.length+1)=t at *
 unfold valueG
 have hl2:=zak 32 t
 by_cases h3:¬ (parseR (seg 32 t)).2.1.1=0
 · rw [if_pos h3]
   exact Or.inl ⟨17,_,rfl,by decide,by omega,by omega⟩
 rw [if_neg h3]
 by_cases h4:¬ 32∈t
 · rw [if_pos h4]
   exact Or.inl ⟨11,_,rfl,by decide,by omega,by omega⟩
 rw [if_neg h4]
 have h4':=Classical.not_not.1 h4
 have hsp2:=zbl h4'
 have hfr2:=zds 32 t
 have hlen2:=congrArg List.length hsp2
 simp only [List.length_append,List.length_cons] at hlen2
 generalize seg 32 t=value at *
 generalize t.drop (value.length+1)=u at *
 unfold timeS
 have hl3:=zak 32 u
 by_cases h5:¬ (timeR (seg 32 u)).2.1.1=0
 · rw [if_pos h5]
   exact Or.inl ⟨20,_,rfl,by decide,by omega,by omega⟩
 rw [if_neg h5]
 by_cases h6:32∈u
 · rw [if_pos h6]
   exact Or.inl ⟨11,_,rfl,by decide,by omega,by omega⟩
 rw [if_neg h6]
 rw [za9 h6] at h5 ⊢
 have h3':=Classical.not_not.1 h3
 have hat:=zb0 h3'
 refine Or.inr ⟨name,value,u,((parseR value).1.1,(parseR value).1.2.1,(parseR value).1.2.2.1),by rw [← hsp2,← hsp],by simpa using h1,hfr,hfr2,h6,?_,Classical.not_not.1 h5,rfl⟩
 generalize parseR value=z at h3' hat
 obtain ⟨⟨a,b,c,_⟩,⟨x,y,_⟩,_⟩:=z
 simp only at h3' hat
 subst h3' hat
 rfl
end Go.AM
set_option linter.unusedVariables false
set_option linter.unusedSimpArgs false
namespace Go.AM
def insD (t:TagL):List TagL→List TagL
 | []=>[t]
 | x::r=>if ltT x t then x::insD t r else if x=t then x::r else t::x::r
def normT (l:List TagL):List TagL:=l.foldl (fun o t=>insD t o) []
abbrev StrictT (l:List TagL):Prop:=l.Pairwise fun a b=>ltT a b=true
theorem zgg (t:TagL):∀ (l:List TagL) (x:TagL),x∈insD t l↔x=t∨x∈l
 | [],x=>by simp [insD]
 | y :: r,x=>by
  unfold insD
  split
  · simp only [List.mem_cons,zgg t r x]
    constructor
    · rintro (h | h | h)<;>simp [h]
    · rintro (h | h | h)<;>simp [h]
  · split
    · rename_i e
      subst e
      simp only [List.mem_cons]
      constructor
      · rintro (h | h)<;>simp [h]
      · rintro (h | h | h)<;>simp [h]
    · simp only [List.mem_cons]
theorem zfu (t:TagL):∀ (l:List TagL),StrictT l→StrictT (insD t l)
 | [],_=>by simp [insD,StrictT]
 | y :: r,h=>by
  obtain ⟨h1,h2⟩:=List.pairwise_cons.1 h
  unfold insD
  split
  · rename_i hy
    refine List.pairwise_cons.2 ⟨fun x hx => ?_,zfu t r h2⟩
    rcases (zgg t r x).1 hx with rfl | hx
    · exact hy
    · exact h1 x hx
  · rename_i hy
    split
    · exact h
    · rename_i hne
      have hty:ltT t y=true:=by
       cases hc:ltT t y
       · exact absurd (zcl (by simpa using hy) hc) hne
       · rfl
      refine List.pairwise_cons.2 ⟨fun x hx => ?_,h⟩
      rcases List.mem_cons.1 hx with rfl | hx
      · exact hty
      · exact zck hty (h1 x hx)
theorem zd7:∀ (a b:List TagL),StrictT a→StrictT b→(∀ x,x∈a↔x∈b)→a=b
 | [],[],_,_,_=>rfl
 | [],y::b,_,_,h=>by have:=(h y).2 (by simp); cases this
 | x::a,[],_,_,h=>by have:=(h x).1 (by simp); cases this
 | x :: a,y::b,ha,hb,h=>by
  obtain ⟨h1,h2⟩:=List.pairwise_cons.1 ha
  obtain ⟨h3,h4⟩:=List.pairwise_cons.1 hb
  have e:x=y:=by
   rcases List.mem_cons.1 ((h x).1 (by simp)) with e | e
   · exact e
   · rcases List.mem_cons.1 ((h y).2 (by simp)) with e' | e'
     · exact e'.symm
     · have:=zik (h1 y e'); rw [h3 x e] at this; cases this
  subst e
  rw [zd7 a b h2 h4 (fun z => ?_)]
  have hx:=h z
  simp only [List.mem_cons] at hx
  constructor
  · intro hz
    rcases hx.1 (Or.inr hz) with rfl | h'
    · have:=h1 _ hz; rw [zb6] at this; cases this
    · exact h'
  · intro hz
    rcases hx.2 (Or.inr hz) with rfl | h'
    · have:=h3 _ hz; rw [zb6] at this; cases this
    · exact h'
theorem zdu:∀ (l o:List TagL),StrictT o→StrictT (l.foldl (fun o t=>insD t o) o)∧∀ x,x∈l.foldl (fun o t=>insD t o) o↔x∈o∨x∈l
 | [],o,h=>⟨h,fun x=>by simp⟩
 | t::l,o,h=>by
  obtain ⟨h1,h2⟩:=zdu l (insD t o) (zfu t o h)
  refine ⟨h1,fun x => ?_⟩
  rw [List.foldl_cons,h2 x,zgg,List.mem_cons]
  constructor
  · rintro ((h | h) | h)<;>simp [h]
  · rintro (h | h | h)<;>simp [h]
theorem zez (l:List TagL):StrictT (normT l):=(zdu l [] List.Pairwise.nil).1
theorem ziu (l:List TagL) (x:TagL):x∈normT l↔x∈l:=by
 unfold normT; rw [(zdu l [] List.Pairwise.nil).2 x]; simp
theorem zkr (t:TagL):∀ l,(insD t l).length≤l.length+1
 | []=>by simp [insD]
 | y::r=>by
  unfold insD
  have:=zkr t r
  split
  · simp; omega
  · split<;>simp
theorem ziv (l:List TagL):(normT l).length≤l.length:=by
 have:∀ (l o:List TagL),(l.foldl (fun o t=>insD t o) o).length≤o.length+l.length:=by
  intro l
  induction l with
  | nil=>intro o; simp
  | cons t l ih=>intro o; have h1:=ih (insD t o); have h2:=zkr t o; simp only [List.foldl_cons,List.length_cons]; omega
 have h:=this l []
 simp only [List.length_nil,Nat.zero_add] at h
 exact h
def dedF (D:List TagL) (t:TagL):List TagL:=if D.getLast? = some t then D else D++[t]
theorem ziw : ∀ (s D : List TagL),SortedT s→StrictT D→(∀ a∈D,∀ b∈s,ltT b a=false)→StrictT (s.foldl dedF D)∧∀ x,x∈s.foldl dedF D↔x∈D∨x∈s
 | [],D,_,h,_=>⟨h,fun x=>by simp⟩
 | t :: s, D, hs, hD, hb=>by
  obtain ⟨h1,h2⟩:=List.pairwise_cons.1 hs
  have key : StrictT (dedF D t)∧(∀ x,x∈dedF D t↔x∈D∨x=t):=by
   unfold dedF
   split
   · rename_i e
     have ht:t∈D:=List.mem_of_getLast? e
     exact ⟨hD,fun x=>⟨Or.inl,fun h=>h.elim id (fun e=>e▸ht)⟩⟩
   · rename_i e
     refine ⟨?_,fun x=>by simp⟩
     refine List.pairwise_append.2 ⟨hD,List.pairwise_singleton _ _,fun a ha b hb' => ?_⟩
     rw [List.mem_singleton.1 hb']
     have h0:=hb a ha t (by simp)
     cases hc:ltT a t
     · exfalso
       have:a=t:=zcl hc h0
       subst this
       apply e
       have:∀ (D:List TagL),StrictT D→(∀ x∈D,ltT a x=false)→a∈D→D.getLast? = some a:=by
        intro D
        induction D with
        | nil=>intro _ _ h; cases h
        | cons y D ih =>
         intro hp hm hin
         obtain ⟨p1,p2⟩:=List.pairwise_cons.1 hp
         cases D with
         | nil => rcases List.mem_cons.1 hin with rfl | h
                  · rfl
                  · cases h
         | cons z D =>
          rw [List.getLast?_cons_cons]
          refine ih p2 (fun x hx=>hm x (List.mem_cons_of_mem _ hx)) ?_
          rcases List.mem_cons.1 hin with rfl | h
          · have:=p1 z (by simp); rw [hm z (by simp)] at this; cases this
          · exact h
       exact this D hD (fun x hx=>hb x hx a (by simp)) ha
     · rfl
  obtain ⟨k1,k2⟩:=key
  obtain ⟨f1,f2⟩:=ziw s (dedF D t) h2 k1 (fun a ha b hb'=>by
   rcases (k2 a).1 ha with ha | rfl
   · exact hb a ha b (List.mem_cons_of_mem _ hb')
   · exact h1 b hb')
  refine ⟨f1,fun x => ?_⟩
  rw [List.foldl_cons,f2 x,k2 x,List.mem_cons]
  constructor
  · rintro ((h | h) | h)<;>simp [h]
  · rintro (h | h | h)<;>simp [h]
theorem zsq (l:List TagL):(sortTags l).foldl dedF []=normT l:=by
 obtain ⟨h1,h2⟩:=ziw (sortTags l) [] (zbn l) List.Pairwise.nil (fun a ha=>by cases ha)
 refine zd7 _ _ h1 (zez l) (fun x => ?_)
 rw [h2 x,ziu,(zaz l).mem_iff]; simp
theorem zht {α:Type}:∀ (l:List α) (k:Nat) (x:α),upd l k x=l.set k x
 | [],_,_=>rfl
 | _::l,0,_=>rfl
 | _::l,k+1,x=>by simp [upd,zht l k x]
end Go.AM
set_option linter.unusedVariables false
set_option linter.unusedSimpArgs false
namespace Go.AM
theorem zks {α:Type} {L D:List α} {k:Nat} (h:L.take D.length=D) (hk:D.length=k+1):L[k]? = D.getLast?:=by
 rw [List.getLast?_eq_getElem?]
 have:D[D.length - 1]? = (L.take D.length)[D.length - 1]?:=by rw [h]
 rw [this,hk,List.getElem?_take]
 simp
theorem zsr {α:Type} {L D:List α} (x:α) (h:L.take D.length=D) (hk:D.length<L.length):(L.set D.length x).take (D++[x]).length=D++[x]:=by
 rw [List.length_append,List.length_singleton,List.take_add_one,List.take_set_of_le (Nat.le_refl _),h]
 simp [hk]
theorem zss {α:Type} (L:List α) (i k:Nat) (x:α) (h:i≤k):(L.set i x).drop (k+1)=L.drop (k+1):=List.drop_set_of_lt (by omega)
theorem zpz (n:Nat) (X:Type) (k0:(Nat×Nat)→Int→(Nat×List TagL)→(Nat×List TagL)→(Nat×List TagL)→Option X) (v N:Nat) (hN:N≤100000) (b0 b1:Nat×List TagL) :
 ∀ (r D L:List TagL) (i m:Nat),L.drop i=r→i≤N→r.length<m→D.length≤i→(i=0↔D=[])→L.length=N→L.take D.length=D →
 ∃ L',L'.take (r.foldl dedF D).length=r.foldl dedF D∧L'.length=N∧F.zm.L5 n k0 m (v,N) (D.length:Int) (v,N) (N:Int) (i:Int) b0 b1 (v,L)=k0 (v,N) ((r.foldl dedF D).length:Int) b0 b1 (v,L'):=by
 intro r
 induction r with
 | nil =>
  intro D L i m hr hi hm hD h0 hL hT
  obtain ⟨m,rfl⟩:∃ p,m=p+1:=⟨m - 1,by omega⟩
  refine ⟨L,hT,hL,?_⟩
  rw [F.zm.L5]
  unfold F.zm.L5.step
  dsimp only
  rw [zg (by have:=zz hr; omega)]
  rfl
 | cons x r ih =>
  intro D L i m hr hi hm hD h0 hL hT
  obtain ⟨m,rfl⟩:∃ p,m=p+1:=⟨m - 1,by simp at hm; omega⟩
  obtain ⟨l1,g1,t1⟩:=zx hr
  have hw:IntKind.wrap .i64 ((D.length:Int)+1)=((D.length+1:Nat):Int):=zi (by omega)
  have hput:∃ L',L'.take (r.foldl dedF (D++[x])).length=r.foldl dedF (D++[x])∧L'.length=N∧F.zm.L5 n k0 m (v,N) (((D++[x]).length:Nat):Int) (v,N) (N:Int) ((i+1:Nat):Int) b0 b1 (v,L.set D.length x)=k0 (v,N) ((r.foldl dedF (D++[x])).length:Int) b0 b1 (v,L'):=
   ih (D++[x]) (L.set D.length x) (i+1) m (by rw [zss L D.length i x hD]; exact t1) (by omega) (by simp at hm; omega) (by simp; omega) (by simp) (by simpa using hL) (zsr x hT (by omega))
  rw [F.zm.L5]
  unfold F.zm.L5.step
  dsimp only
  rw [List.foldl_cons]
  have hb1:(decide ((0:Int)≤(i:Int))&&decide ((i:Int)<(N:Int)))=true:=by simp; omega
  have hb2:(decide ((0:Int)≤(D.length:Int))&&decide ((D.length:Int)<(N:Int)))=true:=by simp; omega
  have hbe:Nat.beq v v=true:=Nat.beq_refl v
  rw [zf (by omega:(i:Int)<(N:Int)),hb1,hbe,cond_true,cond_true,zt,g1,za,zi (by omega:i<4611686018427387904)]
  by_cases hi0:i=0
  · have hD0:=h0.1 hi0
    have e0:((i:Int)==0)=true:=by simp [hi0]
    rw [e0,cond_true,hb2,cond_true,cond_true,za7 (by omega:D.length<L.length),za,hw,Int.toNat_natCast,zht]
    have hd:dedF D x=D++[x]:=by rw [hD0]; rfl
    rw [hd]
    obtain ⟨L',q1,q2,q3⟩:=hput
    refine ⟨L',q1,q2,?_⟩
    rw [← q3,List.length_append,List.length_singleton]
  · have e0:((i:Int)==0)=false:=by simpa using hi0
    have hne:D≠[]:=fun h=>hi0 (h0.2 h)
    have hpos:0<D.length:=List.length_pos_iff.2 hne
    have hwp:IntKind.wrap .i64 ((D.length:Int) - 1)=((D.length - 1:Nat):Int):=by rw [ze (by omega)]; omega
    have hb3:(decide ((0:Int)≤((D.length - 1:Nat):Int))&&decide (((D.length - 1:Nat):Int)<(N:Int)))=true:=by simp; omega
    obtain ⟨y,hy⟩:∃ y,D.getLast? = some y:=⟨_,List.getLast?_eq_some_getLast hne⟩
    have gl:L[D.length - 1]? = some y:=by rw [zks hT (by omega),hy]
    rw [e0,cond_false,hwp,hb3,cond_true,cond_true,zt,gl,za,zkq]
    by_cases hxy:x=y
    · rw [decide_eq_true hxy,Bool.not_true,cond_false]
      have hd:dedF D x=D:=by unfold dedF; rw [hy,hxy,if_pos rfl]
      rw [hd]
      exact ih D L (i+1) m t1 (by omega) (by simp at hm; omega) (by omega) (by simp [hne]) hL hT
    · rw [decide_eq_false hxy,Bool.not_false,cond_true,hb2,cond_true,cond_true,za7 (by omega:D.length<L.length),za,hw,Int.toNat_natCast,zht]
      have hd:dedF D x=D++[x]:=by unfold dedF; rw [hy,if_neg (by simpa using fun h:y=x=>hxy h.symm)]
      rw [hd]
      obtain ⟨L',q1,q2,q3⟩:=hput
      refine ⟨L',q1,q2,?_⟩
      rw [← q3,List.length_append,List.length_singleton]
theorem zut (n:Nat) (l:List TagL):F.zk n l=some l:=by
 unfold F.zk
 rw [beq_self_eq_true,cond_true,show (0:Int)=((0:Nat):Int) from rfl,zp l 0 l.length (by omega) (by omega)]
 simp
theorem zgh (n:Nat) (hn:200000≤n) (l:List TagL) (hl:l.length≤100000) (v:Nat) (b0 b1:Nat×List TagL) :
 F.zm.L5 n (fun (e11_3:Nat×Nat) (e11_4:Int) (e11_b0_0 e11_b1_0 e11_b2_0:Nat×List TagL) =>
  bif Nat.beq e11_3.1 e11_b2_0.1 then
   (sub e11_b2_0.2 (0:Int) e11_4).bind fun x12 =>
    (F.zk n x12).bind fun y13 =>
     some (y13)
  else
   none) n (v,l.length) (0:Int) (v,l.length) (l.length:Int) (0:Int) b0 b1 (v,sortTags l)=some (normT l):=by
 obtain ⟨L', q1,q2,q3⟩:=zpz n _ (fun (e11_3:Nat×Nat) (e11_4:Int) (e11_b0_0 e11_b1_0 e11_b2_0:Nat×List TagL) =>
         bif Nat.beq e11_3.1 e11_b2_0.1 then
          (sub e11_b2_0.2 (0:Int) e11_4).bind fun x12 =>
           (F.zk n x12).bind fun y13 =>
            some (y13)
         else
          none) v l.length hl b0 b1 (sortTags l) [] (sortTags l) 0 n rfl (by omega) (by rw [za3]; omega) (by simp) (by simp) (za3 l) rfl
 refine q3.trans ?_
 rw [zsq] at q1 ⊢
 dsimp only
 rw [Nat.beq_refl,cond_true,show (0:Int)=((0:Nat):Int) from rfl,zp L' 0 _ (by omega) (by rw [q2]; exact ziv l),q1]
 simp only [za,List.drop_zero,zut]
theorem zkt (n:Nat) (hn:200000≤n) (l:List TagL) (hl:l.length≤100000):F.zm n l=some (normT l):=by
 have e1:(decide ((0+l.length)*32≤2 ^ 46)&&decide (0<32∧32≤2 ^ 20))=true:=by
  rw [decide_eq_true (by omega)]; rfl
 have e2:∀ l:List TagL,l.length≤100000→(Nat.beq (sortTags l).length l.length&&Nat.blt l.length strMax)=true:=by
  intro l hl
  rw [za3,Nat.beq_refl,Bool.true_and,zim]
  exact Nat.ble_eq▸(by omega:l.length+1≤4611686018427387904)
 unfold F.zm
 rw [List.nil_append,e1,cond_true,e2 l hl,cond_true]
 cases l with
 | nil =>
  have h1:=zgh n hn [] (by simp) 1 (1,[]) (1,[])
  have h2:=zgh n hn [] (by simp) 2 (1,[]) (1,[])
  refine Eq.trans (b:=both (some (normT [])) (some (normT []))) ?_ (zn5 _)
  rw [List.isEmpty_nil,cond_true]
  congr 1
 | cons t l =>
  exact zgh n hn (t::l) hl 2 (1,[]) (1,[])
end Go.AM
set_option linter.unusedVariables false
set_option linter.unusedSimpArgs false
namespace Go.AM
def zeroM:MetD:=([],(0:Int),[],(0:Int),[],(0:Int),())
end Go.AM
set_option linter.unusedVariables false
set_option linter.unusedSimpArgs false
namespace Go.AM
def TagS (t:TagL):Prop:=t.1.length≤1000∧t.2.length≤1000
theorem zg4 {c:Int} {s:List UInt8} {lo hi:Int} (h:(textF c s lo hi).1=0):lo≤(s.length:Int)∧(s.length:Int)≤hi∧s.all (cls c)=true:=by
 unfold textF at h
 split at h
 · cases h
 · split at h
   · cases h
   · split at h
     · cases h
     · split at h
       · cases h
       · rename_i h1 h2 h3 h4
         exact ⟨by omega,by omega,Classical.byContradiction fun hh=>h4 ((zc3 _ _ _).2 hh)⟩
theorem zg5 {t:TagL} (h:tagGood t=true):TagS t:=by
 unfold tagGood at h
 simp only [Bool.and_eq_true,beq_iff_eq] at h
 have h1:=zg4 h.1
 have h2:=zg4 h.2
 exact ⟨by omega,by omega⟩
end Go.AM
set_option linter.unusedVariables false
set_option linter.unusedSimpArgs false
namespace Go.AM
structure RightM (m:MetD):Prop where
 ok:MetOK m
 chk:chkM m=0
theorem znv {m:MetD} (h:RightM m):(∀ d∈m.2.2.1,DecLOK d∧decC d=0)∧1≤m.2.2.1.length∧m.2.2.1.length≤64:=by
 have:=(zgf h.chk).2.2.1
 unfold valsB at this
 simp only [Bool.and_eq_true,decide_eq_true_eq] at this
 refine ⟨fun d hd=>⟨h.ok.2.1.2 d hd,?_⟩,this.1,this.2.1⟩
 simpa using List.all_eq_true.1 this.2.2 d hd
theorem znw {m:MetD} (h:RightM m):(∀ t∈m.2.2.2.2.1,TagS t∧tagGood t=true)∧m.2.2.2.2.1.length≤32:=by
 have:=(zgf h.chk).2.2.2.2.1
 unfold tagsB at this
 simp only [Bool.and_eq_true,decide_eq_true_eq] at this
 exact ⟨fun t ht=>⟨zg5 (List.all_eq_true.1 this.2 t ht),List.all_eq_true.1 this.2 t ht⟩,this.1⟩
theorem zp0 {s:List UInt8} (h:nameOK s=true):1≤s.length∧s.length≤200:=by
 rw [zit] at h
 simp only [Bool.and_eq_true,decide_eq_true_eq] at h
 exact h.2
end Go.AM
set_option linter.unusedVariables false
set_option linter.unusedSimpArgs false
namespace Go.AM
abbrev Res (α:Type):=Except (Int×Int) α
def kindR (s:List UInt8):Int:=if s=[99] then 1 else if s=[103] then 2 else if s=[109,115] then 3 else if s=[104] then 4 else if s=[100] then 5 else 0
theorem zuu (n:Nat) (hn:100≤n) (s:List UInt8):F.zak n s=some (if kindR s=0 then (0,16,()) else (kindR s,0,())):=by
 obtain ⟨m,hm⟩:∃ q,n=q+7:=⟨n - 7,by omega⟩
 unfold F.zak
 rw [show F.za4 n=some ([],[99],[103],[109,115],[104],[100],()) from rfl,za]
 have L:∀ (k0:Unit→Option (Int×Int×Unit)) (kr:Int→Int→Option (Int×Int×Unit)),F.zak.L2 n k0 kr (m+7) s ([],[99],[103],[109,115],[104],[100],()) (0:Int)=if s=[99] then kr 1 0 else if s=[103] then kr 2 0 else if s=[109,115] then kr 3 0 else if s=[104] then kr 4 0 else if s=[100] then kr 5 0 else k0 ():=by
  intro k0 kr
  have e1:([99]==s)=decide (s=[99]):=by by_cases h:s=[99]<;>simp [h]; exact fun h'=>h h'.symm
  have e2:([103]==s)=decide (s=[103]):=by by_cases h:s=[103]<;>simp [h]; exact fun h'=>h h'.symm
  have e3:([109,115]==s)=decide (s=[109,115]):=by by_cases h:s=[109,115]<;>simp [h]; exact fun h'=>h h'.symm
  have e4:([104]==s)=decide (s=[104]):=by by_cases h:s=[104]<;>simp [h]; exact fun h'=>h h'.symm
  have e5:([100]==s)=decide (s=[100]):=by by_cases h:s=[100]<;>simp [h]; exact fun h'=>h h'.symm
  show (bif [99]==s then kr 1 0 else bif [103]==s then kr 2 0 else bif [109,115]==s then kr 3 0 else bif [104]==s then kr 4 0 else bif [100]==s then kr 5 0 else k0 ())=_
  rw [e1,e2,e3,e4,e5]
  simp only [bdec]
 rw [hm] at L ⊢
 refine (L _ _).trans ?_
 unfold kindR
 repeat' split
 all_goals first | rfl | (simp_all)
def readVals:List (List UInt8)→List DecL→Int→Except Int (List DecL)
 | [],acc,_ => .ok acc
 | v::r,acc,at_=>if (parseR v).2.1.1=0∧acc.length≠64 then readVals r (acc++[((parseR v).1.1,(parseR v).1.2.1,(parseR v).1.2.2.1)]) (at_+v.length+1) else .error at_
def restN (c:UInt8) (s:List UInt8):List UInt8:=if c∈s then s.drop ((seg c s).length+1) else []
def firstR (s:List UInt8):Res (List UInt8×List DecL):=
 if nameOK (seg 58 s)=false then .error (15,0)
 else if 58∉s then .error (11,(s.length:Int))
 else match readVals (splitL 58 (restN 58 s)) [] ((seg 58 s).length+1) with
  | .ok vs => .ok (seg 58 s,vs)
  | .error at_ => .error (17,at_)
def tagsR:List (List UInt8)→List TagL→Int→Except Int (List TagL)
 | [],acc,_ => .ok acc
 | p::r,acc,at_=>if tagGood (seg 58 p,restN 58 p)=true∧¬ (58∈p∧restN 58 p=[]) then tagsR r (acc++[(seg 58 p,restN 58 p)]) (at_+p.length+1) else .error at_
def moreR (m:MetD) (last:Int):List UInt8→Except Int (MetD×Int)
 | [] => .error 11
 | x :: s =>
  if x=64 then (if 0<last then .error 11 else if (rateR s).2.1.1≠0∨(m.2.1=2∧(rateR s).1≠1000000) then .error 18 else .ok ((m.1,m.2.1,m.2.2.1,(rateR s).1,m.2.2.2.2.1,m.2.2.2.2.2.1,()),1))
  else if x=35 then (if 1<last then .error 11 else match tagsR (splitL 44 s) [] 0 with
   | .error _ => .error 19
   | .ok l=>if 32<l.length then .error 19 else .ok ((m.1,m.2.1,m.2.2.1,m.2.2.2.1,normT l,m.2.2.2.2.2.1,()),2))
  else if x=84 then (if 2<last then .error 11 else if (parseNum s 1 1099511627776).2.1.1≠0 then .error 20 else .ok ((m.1,m.2.1,m.2.2.1,m.2.2.2.1,m.2.2.2.2.1,(parseNum s 1 1099511627776).1,()),3))
  else .error 11
def restR:List (List UInt8)→Int→MetD→Int→Res MetD
 | [],_,m,_ => .ok m
 | p::r,at_,m,last=>match moreR m last p with
  | .error e => .error (e,at_)
  | .ok (m',last')=>restR r (at_+p.length+1) m' last'
def secondR (s p:List UInt8) (nm:List UInt8) (vs:List DecL):List (List UInt8)→Res MetD
 | [] => .error (11,(s.length:Int))
 | q::r=>if kindR q=0 then .error (16,(p.length:Int)+1) else restR r ((p.length:Int)+1+(q.length+1)) (nm,kindR q,vs,1000000,[],0,()) 0
def linesR (s:List UInt8):List (List UInt8)→Res MetD
 | [] => .error (11,0)
 | p::r=>match firstR p with
  | .error e => .error e
  | .ok x=>secondR s p x.1 x.2 r
abbrev ParseD:=MetD×(Int×Int×Unit)×Unit
def outP:Res MetD→ParseD
 | .ok m=>(m,(0,0,()),())
 | .error e=>(zeroM,(e.1,e.2,()),())
def parseD (s:List UInt8):ParseD:=if 8192<s.length then (zeroM,(12,0,()),()) else outP (linesR s (splitL 124 s))
theorem zku (c:UInt8) (s:List UInt8):(restN c s).length≤s.length:=by
 unfold restN; split<;>simp
theorem zbp (c:UInt8) (s:List UInt8):splitL c s=if c∈s then seg c s::splitL c (restN c s) else [s]:=by
 induction s with
 | nil=>rfl
 | cons x s ih =>
  by_cases hx:x=c
  · subst hx
    have e1:seg x (x::s)=[]:=by rw [zat,if_pos rfl]
    have e2:restN x (x::s)=s:=by unfold restN; rw [if_pos (by simp),e1]; rfl
    rw [if_pos (by simp),e1,e2,splitL,if_pos rfl]
  · have hmem:(c∈x::s)↔c∈s:=by simp [show ¬ c=x from fun h=>hx h.symm]
    rw [splitL,if_neg hx,ih]
    by_cases hc:c∈s
    · rw [if_pos hc,if_pos (hmem.2 hc)]
      have e1:seg c (x::s)=x::seg c s:=by rw [zat,if_neg hx]
      have e2:restN c (x::s)=restN c s:=by unfold restN; rw [if_pos hc,if_pos (hmem.2 hc),e1]; rfl
      rw [e1,e2]
    · rw [if_neg hc,if_neg (fun h=>hc (hmem.1 h))]
def sumL (l:List (List UInt8)):Nat:=(l.map fun p=>p.length+1).sum
theorem zba (c:UInt8) (s:List UInt8):sumL (splitL c s)=s.length+1:=by
 induction s with
 | nil=>rfl
 | cons x s ih =>
  rw [splitL]
  split
  · simp only [sumL,List.map_cons,List.sum_cons,List.length_nil,List.length_cons] at ih ⊢
    omega
  · have hne:=zbz c s
    revert ih hne
    cases splitL c s with
    | nil=>intro _ h; exact absurd rfl h
    | cons p l =>
     intro ih _
     simp only [sumL,List.map_cons,List.sum_cons,List.length_cons] at ih ⊢
     omega
theorem zbf (l:List (List UInt8)):l.length≤sumL l:=by
 induction l with
 | nil=>simp [sumL]
 | cons p l ih=>simp only [sumL,List.map_cons,List.sum_cons,List.length_cons] at ih ⊢; omega
theorem zce {l:List (List UInt8)} {p:List UInt8} (h:p∈l):p.length+1≤sumL l:=by
 induction l with
 | nil=>cases h
 | cons q l ih =>
  simp only [sumL,List.map_cons,List.sum_cons] at ih ⊢
  rcases List.mem_cons.1 h with rfl | h
  · omega
  · have:=ih h; omega
theorem zgi (n:Nat) (c:UInt8) {s:List UInt8} (hs:s.length≤1000000):O.split1 n s [c]=some (splitL c s):=by
 unfold O.split1
 dsimp only
 rw [decide_eq_true (by omega)]; rfl
theorem znx (s:List UInt8):((parseR s).2.1.1==0&&(parseR s).2.1.2.1==0)=decide ((parseR s).2.1.1=0):=by
 by_cases h:(parseR s).2.1.1=0
 · rw [decide_eq_true h,h,zb0 h]; rfl
 · rw [decide_eq_false h,beq_eq_false_iff_ne.2 h]; rfl
theorem zny (n:Nat) (hn:200000≤n) (X:Type) (k0 kr:List TagL→Int→Int→Nat→Option X) (ps:List (List UInt8)) (hs:sumL ps≤10000) (b0 b1:Int):∀ (r:List (List UInt8)) (acc:List TagL) (a:Int) (i m:Nat),ps.drop i=r→acc.length≤i→i≤ps.length→r.length<m→0≤a→a+sumL r≤10000 →
 F.zac.L4 n k0 kr m acc a ps (ps.length:Int) (i:Int) b0 b1 acc.length=match tagsR r acc a with
  | .ok l=>k0 l b0 b1 l.length
  | .error e=>kr [] 19 e 0:=by
 intro r
 have hpl:=zbf ps
 induction r with
 | nil =>
  intro acc a i m h1 h2 hi hm ha has
  obtain ⟨m,rfl⟩:∃ q,m=q+1:=⟨m - 1,by omega⟩
  rw [F.zac.L4]
  unfold F.zac.L4.step
  dsimp only
  rw [zg (by have:=zz h1; omega)]
  rfl
 | cons p r ih =>
  intro acc a i m h1 h2 hi hm ha has
  obtain ⟨m,rfl⟩:∃ q,m=q+1:=⟨m - 1,by simp at hm; omega⟩
  obtain ⟨l1,g1,t1⟩:=zx h1
  simp only [List.length_cons] at hm
  simp only [sumL,List.map_cons,List.sum_cons] at has
  have hp:=zce (List.mem_of_getElem? g1)
  have hsl:=zak 58 p
  have hrl:=zku 58 p
  have hih:=ih (acc++[(seg 58 p,restN 58 p)]) (a+p.length+1) (i+1) m t1 (by simp; omega) (by omega) (by omega) (by omega) (by simp only [sumL]; omega)
  have hcut:F.zx n p [58]=some (seg 58 p,restN 58 p,decide (58∈p),()):=zbo n 58 (by omega)
  have hw:IntKind.wrap .i64 (a+IntKind.wrap .i64 ((p.length:Int)+1))=a+p.length+1:=by
   rw [zi (by omega),ze (by omega)]; omega
  have hg:(decide ((acc.length+1)*32≤2 ^ 46)&&decide (0<32∧32≤2 ^ 20))=true:=by rw [decide_eq_true (by omega)]; rfl
  rw [F.zac.L4]
  unfold F.zac.L4.step
  dsimp only
  rw [zf (by omega),zt,g1,za,hcut,za]
  dsimp only
  have hc:=zuq n hn (t:=(seg 58 p,restN 58 p)) ⟨by show (seg 58 p).length≤10000; omega,by show (restN 58 p).length≤10000; omega⟩
  dsimp only at hc
  rw [hc,za,hw,zi (by omega),hg,Nat.beq_refl,cond_true,cond_true,tagsR]
  cases tagGood (seg 58 p,restN 58 p)
  · rw [if_neg (by simp)]; rfl
  · rw [cond_true,beq_self_eq_true,Bool.not_true,cond_false,bdec]
    by_cases hin:(58:UInt8)∈p
    · rw [if_pos hin]
      by_cases h0:restN 58 p=[]
      · rw [h0,beq_self_eq_true,cond_true,if_neg (by simp [hin])]
      · rw [beq_eq_false_iff_ne.2 h0,cond_false,if_pos ⟨rfl,by simp [h0]⟩]
        exact hih
    · rw [if_neg hin,if_pos ⟨rfl,by simp [hin]⟩]
      exact hih
theorem zlt (n:Nat) (hn:200000≤n) (s:List UInt8) (hs:s.length≤9000):F.zac n s=some (match tagsR (splitL 44 s) [] 0 with | .ok l=>(l,(0,0,()),()) | .error e=>([],(19,e,()),())):=by
 unfold F.zac
 have h1:=zba 44 s
 have h2:=zbf (splitL 44 s)
 rw [zgi n 44 (by omega),za]
 refine (zny n hn _ _ _ (splitL 44 s) (by omega) 0 0 (splitL 44 s) [] 0 0 n rfl (by simp) (by omega) (by omega) (by omega) (by omega)).trans ?_
 cases tagsR (splitL 44 s) [] 0<;>rfl
end Go.AM
set_option linter.unusedVariables false
set_option linter.unusedSimpArgs false
namespace Go.AM
end Go.AM
set_option linter.unusedVariables false
set_option linter.unusedSimpArgs false
namespace Go.AM
abbrev KR:=List UInt8→Int→List DecL→Int→List TagL→Int→Int→Int→List UInt8→Int→List DecL→Int→List TagL→Int→Int→Int→Int→Int→Int→Int→Nat→Nat→Nat→Option ParseD
abbrev K8:=List UInt8→List (List UInt8)→List UInt8→Int→List DecL→Int→List TagL→Int→Int→Int→List UInt8→Int→List DecL→Int→List TagL→Int→Int→Int→Int→Int→Nat→Nat→Nat→Option ParseD
def badP (e a:Int):ParseD:=(zeroM,(e,a,()),())
theorem znz (n:Nat) (hn:200000≤n) (k1 kr:KR) (ps:List (List UInt8)) (hs:sumL ps≤9000)
 (c0:List UInt8) (c1:Int) (c2:List DecL) (c3:Int) (c4:List TagL) (c5 d0 d1:Int) (e0:List UInt8) (e1:Int) (e3:Int) (e4:List TagL) (e5 e7 f0 f1:Int) (q0 q1:Nat)
 (hbad:∀ acc a l,kr c0 c1 c2 c3 c4 c5 d0 d1 e0 e1 acc e3 e4 e5 0 e7 f0 f1 17 a q0 q1 l=some (badP 17 a)) :
 ∀ (r:List (List UInt8)) (acc:List DecL) (a:Int) (i m:Nat),ps.drop i=r→acc.length≤i→i≤ps.length→r.length<m→0≤a→a+sumL r≤10000 →
 F.zf.L9_dog_reader_first n k1 kr m a ps (ps.length:Int) (i:Int) c0 c1 c2 c3 c4 c5 d0 d1 e0 e1 acc e3 e4 e5 0 e7 f0 f1 0 0 q0 q1 acc.length=match readVals r acc a with
  | .ok vs=>k1 c0 c1 c2 c3 c4 c5 d0 d1 e0 e1 vs e3 e4 e5 0 e7 f0 f1 0 0 q0 q1 vs.length
  | .error b=>some (badP 17 b):=by
 intro r
 have hpl:=zbf ps
 induction r with
 | nil =>
  intro acc a i m h1 h2 hi hm ha has
  obtain ⟨m,rfl⟩:∃ q,m=q+1:=⟨m - 1,by omega⟩
  rw [F.zf.L9_dog_reader_first]
  unfold F.zf.L9_dog_reader_first.step
  dsimp only
  rw [zg (by have:=zz h1; omega)]
  rfl
 | cons p r ih =>
  intro acc a i m h1 h2 hi hm ha has
  obtain ⟨m,rfl⟩:∃ q,m=q+1:=⟨m - 1,by simp at hm; omega⟩
  obtain ⟨l1,g1,t1⟩:=zx h1
  simp only [List.length_cons] at hm
  simp only [sumL,List.map_cons,List.sum_cons] at has
  have hp:=zce (List.mem_of_getElem? g1)
  have hih:=ih (acc++[((parseR p).1.1,(parseR p).1.2.1,(parseR p).1.2.2.1)]) (a+p.length+1) (i+1) m t1 (by simp; omega) (by omega) (by omega) (by omega) (by simp only [sumL]; omega)
  have hw:IntKind.wrap .i64 (a+IntKind.wrap .i64 ((p.length:Int)+1))=a+p.length+1:=by
   rw [zi (by omega),ze (by omega)]; omega
  have hw0:IntKind.wrap .i64 (0+a)=a:=by rw [Int.zero_add,ze (by omega)]
  have hg:(decide ((acc.length+1)*24≤2 ^ 46)&&decide (0<24∧24≤2 ^ 20))=true:=by rw [decide_eq_true (by omega)]; rfl
  have h64:((acc.length:Int)==64)=decide (acc.length=64):=by
   by_cases h:acc.length=64
   · rw [h]; rfl
   · rw [decide_eq_false h,beq_eq_false_iff_ne]; omega
  rw [F.zf.L9_dog_reader_first]
  unfold F.zf.L9_dog_reader_first.step
  dsimp only
  rw [zf (by omega),zt,g1,za,zcs n hn p (by omega),za,znx,hw,hw0,zi (by omega),hg,Nat.beq_refl,cond_true,cond_true,h64,readVals]
  by_cases h0:(parseR p).2.1.1=0
  · rw [decide_eq_true h0,Bool.not_true,cond_false]
    by_cases h6:acc.length=64
    · rw [decide_eq_true h6,cond_true,if_neg (by simp [h6])]
      exact hbad _ _ _
    · rw [decide_eq_false h6,cond_false,if_pos ⟨h0,h6⟩]
      exact hih
  · rw [decide_eq_false h0,Bool.not_false,cond_true,if_neg (by simp [h0])]
    exact hbad _ _ _
theorem ze0 (n:Nat) (c x:UInt8) (s:List UInt8):F.zt n (x::s) [c]=some (if x=c then (s,true,()) else (x::s,false,())):=by
 unfold F.zt F.zah F.zv
 have h1:sub (x::s) 0 (([c]:List UInt8).length:Int)=some [x]:=by
  rw [show (0:Int)=((0:Nat):Int) from rfl,show (([c]:List UInt8).length:Int)=((1:Nat):Int) from rfl,zp (x::s) 0 1 (by omega) (by simp)]; rfl
 have h2:sub (x::s) (([c]:List UInt8).length:Int) ((x::s).length:Int)=some s:=by
  rw [show (([c]:List UInt8).length:Int)=((1:Nat):Int) from rfl,zp (x::s) 1 _ (by simp) (by omega),List.take_length]; rfl
 rw [zf (by simp; omega),h1,h2]
 by_cases h:x=c
 · subst h
   simp
 · rw [if_neg h]
   have:([x]==[c])=false:=by simpa using h
   simp [this]
theorem zdv (n:Nat) (c:UInt8):F.zt n [] [c]=some ([],false,()):=rfl
theorem zst (s:List UInt8):((rateR s).2.1.1==0&&(rateR s).2.1.2.1==0)=decide ((rateR s).2.1.1=0):=by
 by_cases h:(rateR s).2.1.1=0
 · rw [decide_eq_true h,h,(zhs h).1]; rfl
 · rw [decide_eq_false h,beq_eq_false_iff_ne.2 h]; rfl
theorem zsu (s:List UInt8):((parseNum s 1 1099511627776).2.1.1==0&&(parseNum s 1 1099511627776).2.1.2.1==0)=decide ((parseNum s 1 1099511627776).2.1.1=0):=by
 by_cases h:(parseNum s 1 1099511627776).2.1.1=0
 · rw [decide_eq_true h,h,(zdt h).1]; rfl
 · rw [decide_eq_false h,beq_eq_false_iff_ne.2 h]; rfl
theorem zix:∀ (r:List (List UInt8)) (acc:List TagL) (a:Int) (l:List TagL),tagsR r acc a = .ok l→l.length=acc.length+r.length
 | [],acc,a,l,h=>by cases h; simp
 | p :: r,acc,a,l,h=>by
  rw [tagsR] at h
  split at h
  · have:=zix r _ _ _ h
    simp at this ⊢; omega
  · cases h
theorem zuv (n:Nat) (hn:200000≤n) (k0 kr:KR) (p:List UInt8) (hs:p.length≤9000)
 (c0:List UInt8) (c1:Int) (c2:List DecL) (c3:Int) (c4:List TagL) (c5 d0 d1:Int) (e0:List UInt8) (e1:Int) (e2:List DecL) (e3:Int) (e4:List TagL) (e5 a last f0 f1:Int) (q0 q1 q2:Nat) (ha:0≤a∧a≤100000)
 (hk0:k0 c0 c1 c2 c3 c4 c5 d0 d1 e0 e1 e2 e3 e4 e5 a last f0 f1 0 0 q0 q1 q2=some (badP 11 a))
 (hbad:∀ l e,e≠0→kr c0 c1 c2 c3 c4 c5 d0 d1 e0 e1 e2 e3 e4 e5 a l f0 f1 e a q0 q1 q2=some (badP e a)) (m:Nat) (hm:5≤m) :
 F.zf.L2_dog_reader_more n k0 kr m p ([64],(),[35],(),[84],(),()) (0:Int) c0 c1 c2 c3 c4 c5 d0 d1 e0 e1 e2 e3 e4 e5 a last f0 f1 0 0 q0 q1 q2=match moreR (e0,e1,e2,e3,e4,e5,()) last p with
  | .error e=>some (badP e a)
  | .ok (w,l)=>kr c0 c1 c2 c3 c4 c5 d0 d1 w.1 w.2.1 w.2.2.1 w.2.2.2.1 w.2.2.2.2.1 w.2.2.2.2.2.1 a l f0 f1 0 0 q0 q1 q2:=by
 obtain ⟨m,rfl⟩:∃ q,m=q+4:=⟨m - 4,by omega⟩
 have hw0:IntKind.wrap .i64 (a+0)=a:=by rw [Int.add_zero,ze (by omega)]
 have w1:IntKind.wrap .i64 ((0:Int)+1)=1:=rfl
 have w2:IntKind.wrap .i64 ((1:Int)+1)=2:=rfl
 have w3:IntKind.wrap .i64 ((2:Int)+1)=3:=rfl
 have b1:((1:Int)==0)=false:=rfl
 have b2:((2:Int)==0)=false:=rfl
 have b3:((2:Int)==1)=false:=rfl
 cases p with
 | nil =>
  rw [moreR]
  rw [F.zf.L2_dog_reader_more]
  unfold F.zf.L2_dog_reader_more.step
  dsimp only
  rw [zf (by omega),beq_self_eq_true,cond_true,zdv,za,Bool.not_false,cond_true,w1,F.zf.L2_dog_reader_more]
  unfold F.zf.L2_dog_reader_more.step
  dsimp only
  rw [zf (by omega),b1,beq_self_eq_true,cond_true,cond_false,zdv,za,Bool.not_false,cond_true,w2,F.zf.L2_dog_reader_more]
  unfold F.zf.L2_dog_reader_more.step
  dsimp only
  rw [zf (by omega),b2,b3,beq_self_eq_true,cond_true,cond_false,cond_false,zdv,za,Bool.not_false,cond_true,w3,F.zf.L2_dog_reader_more]
  unfold F.zf.L2_dog_reader_more.step
  dsimp only
  rw [zg (by omega)]
  exact hk0
 | cons x s =>
  simp only [List.length_cons] at hs
  rw [moreR]
  rw [F.zf.L2_dog_reader_more]
  unfold F.zf.L2_dog_reader_more.step
  dsimp only
  rw [zf (by omega),beq_self_eq_true,cond_true,ze0,za,w1,hw0]
  by_cases h64:x=64
  · rw [if_pos h64,if_pos h64]
    dsimp only
    rw [Bool.not_true,cond_false,bdec]
    by_cases hl:0<last
    · rw [if_pos hl,if_pos hl]; exact hk0
    · rw [if_neg hl,if_neg hl,zkn n (by omega) s (by omega) (by omega),za,zst]
      by_cases h0:(rateR s).2.1.1=0
      · rw [decide_eq_true h0,Bool.not_true,cond_false]
        by_cases h2:e1=2
        · rw [h2,beq_self_eq_true,cond_true]
          by_cases h1:(rateR s).1=1000000
          · rw [h1,beq_self_eq_true,Bool.not_true,cond_false,if_neg (by simp [h0])]
          · rw [beq_eq_false_iff_ne.2 h1,Bool.not_false,cond_true,if_pos (by simp [h1])]
            rw [h2] at hbad
            exact hbad _ _ (by decide)
        · rw [beq_eq_false_iff_ne.2 h2,cond_false,if_neg (by simp [h0,h2])]
      · rw [decide_eq_false h0,Bool.not_false,cond_true,if_pos (by simp [h0])]
        exact hbad _ _ (by decide)
  rw [if_neg h64,if_neg h64]
  dsimp only
  rw [Bool.not_false,cond_true]
  rw [F.zf.L2_dog_reader_more]
  unfold F.zf.L2_dog_reader_more.step
  dsimp only
  rw [zf (by omega),b1,beq_self_eq_true,cond_false,cond_true,ze0,za,w2,hw0]
  by_cases h35:x=35
  · rw [if_pos h35,if_pos h35]
    dsimp only
    rw [Bool.not_true,cond_false,bdec]
    by_cases hl:1<last
    · rw [if_pos hl,if_pos hl]; exact hk0
    · have hsl:=zba 44 s
      have hsn:=zbf (splitL 44 s)
      rw [if_neg hl,if_neg hl,zlt n hn s (by omega),za]
      cases hT:tagsR (splitL 44 s) [] 0 with
      | error e =>
       dsimp only
       rw [show ((19:Int)==0)=false from rfl,Bool.false_and,Bool.not_false,cond_true]
       exact hbad _ _ (by decide)
      | ok l =>
       have hll:=zix _ _ _ _ hT
       simp only [List.length_nil,Nat.zero_add] at hll
       dsimp only
       rw [beq_self_eq_true,Bool.and_self,Bool.not_true,cond_false,bdec]
       by_cases h32:32<l.length
       · rw [if_pos (by omega),if_pos h32]
         exact hbad _ _ (by decide)
       · rw [if_neg (by omega),if_neg h32,zkt n hn l (by omega),za]
  rw [if_neg h35,if_neg h35]
  dsimp only
  rw [Bool.not_false,cond_true]
  rw [F.zf.L2_dog_reader_more]
  unfold F.zf.L2_dog_reader_more.step
  dsimp only
  rw [zf (by omega),b2,b3,beq_self_eq_true,cond_false,cond_false,cond_true,ze0,za,w3,hw0]
  by_cases h84:x=84
  · rw [if_pos h84,if_pos h84]
    dsimp only
    rw [Bool.not_true,cond_false,bdec]
    by_cases hl:2<last
    · rw [if_pos hl,if_pos hl]; exact hk0
    · rw [if_neg hl,if_neg hl,zmm n s (by omega) (by omega),za,zsu]
      by_cases h0:(parseNum s 1 1099511627776).2.1.1=0
      · rw [decide_eq_true h0,Bool.not_true,cond_false,if_neg (by simp [h0])]
      · rw [decide_eq_false h0,Bool.not_false,cond_true,if_pos h0]
        exact hbad _ _ (by decide)
  rw [if_neg h84,if_neg h84]
  dsimp only
  rw [Bool.not_false,cond_true]
  rw [F.zf.L2_dog_reader_more]
  unfold F.zf.L2_dog_reader_more.step
  dsimp only
  rw [zg (by omega)]
  exact hk0
structure K8OK (s:List UInt8) (ps:List (List UInt8)) (k0:K8):Prop where
 bad:∀ c0 c1 c2 c3 c4 c5 d0 d1 e0 e1 e2 e3 e4 e5 e6 e7 e a q0 q1 q2,e≠0→k0 s ps c0 c1 c2 c3 c4 c5 d0 d1 e0 e1 e2 e3 e4 e5 e6 e7 e a q0 q1 q2=some (badP e a)
 ok:2≤ps.length→∀ c0 c1 c2 c3 c4 c5 d0 d1 e0 e1 e2 e3 e4 e5 e6 e7 q0 q1 q2,k0 s ps c0 c1 c2 c3 c4 c5 d0 d1 e0 e1 e2 e3 e4 e5 e6 e7 0 0 q0 q1 q2=some ((e0,e1,e2,e3,e4,e5,()),(0,0,()),())
 one:ps.length<2→∀ c0 c1 c2 c3 c4 c5 d0 d1 e0 e1 e2 e3 e4 e5 e6 e7 q0 q1 q2,k0 s ps c0 c1 c2 c3 c4 c5 d0 d1 e0 e1 e2 e3 e4 e5 e6 e7 0 0 q0 q1 q2=some (badP 11 (s.length:Int))
theorem zmn {a:Int} (p:List UInt8) (h:0≤a∧a+p.length+1≤100000):IntKind.wrap .i64 (a+IntKind.wrap .i64 ((p.length:Int)+1))=a+p.length+1:=by
 rw [zi (by omega),ze (by omega)]; omega
theorem zn0 (n:Nat) (hn:200000≤n) (k0:K8) (s:List UInt8) (ps:List (List UInt8)) (hs:sumL ps≤9000) (hk:K8OK s ps k0) (h2:2≤ps.length)
 (c0:List UInt8) (c1:Int) (c2:List DecL) (c3:Int) (c4:List TagL) (c5 d0 d1:Int) (q0 q1 q2:Nat) :
 ∀ (r:List (List UInt8)) (a:Int) (w:MetD) (last:Int) (i m:Nat),ps.drop i=r→2≤i→i≤ps.length→r.length<m→0≤a→a+sumL r≤10000 →
 F.zf.L8 n k0 m s ps ps (ps.length:Int) (i:Int) c0 c1 c2 c3 c4 c5 d0 d1 w.1 w.2.1 w.2.2.1 w.2.2.2.1 w.2.2.2.2.1 w.2.2.2.2.2.1 a last 0 0 q0 q1 q2=some (outP (restR r a w last)):=by
 intro r
 have hpl:=zbf ps
 induction r with
 | nil =>
  intro a w last i m h1 hi2 hi hm ha has
  obtain ⟨m,rfl⟩:∃ q,m=q+1:=⟨m - 1,by omega⟩
  rw [F.zf.L8]
  unfold F.zf.L8.step
  dsimp only
  rw [zg (by have:=zz h1; omega),restR]
  exact hk.ok h2 _ _ _ _ _ _ _ _ _ _ _ _ _ _ _ _ _ _ _
 | cons p r ih =>
  intro a w last i m h1 hi2 hi hm ha has
  obtain ⟨m,rfl⟩:∃ q,m=q+1:=⟨m - 1,by simp at hm; omega⟩
  obtain ⟨l1,g1,t1⟩:=zx h1
  simp only [List.length_cons] at hm
  simp only [sumL,List.map_cons,List.sum_cons] at has
  have hp:=zce (List.mem_of_getElem? g1)
  have hw0:IntKind.wrap .i64 (a+0)=a:=by rw [Int.add_zero,ze (by omega)]
  rw [F.zf.L8]
  unfold F.zf.L8.step
  dsimp only
  rw [zf (by omega),zt,g1,za,zg (by omega:¬ (i:Int)<2)]
  refine (zuv n hn _ _ p (by omega) c0 c1 c2 c3 c4 c5 d0 d1 w.1 w.2.1 w.2.2.1 w.2.2.2.1 w.2.2.2.2.1 w.2.2.2.2.2.1 a last 0 0 q0 q1 q2 (by omega) ?_ ?_ n (by omega)).trans ?_
  · rw [hw0,Bool.false_and,Bool.not_false,cond_true]
    exact hk.bad _ _ _ _ _ _ _ _ _ _ _ _ _ _ _ _ _ _ _ _ _ (by decide)
  · intro l e he
    rw [beq_eq_false_iff_ne.2 he,Bool.false_and,Bool.not_false,cond_true]
    exact hk.bad _ _ _ _ _ _ _ _ _ _ _ _ _ _ _ _ _ _ _ _ _ he
  · have hww:(w.1,w.2.1,w.2.2.1,w.2.2.2.1,w.2.2.2.2.1,w.2.2.2.2.2.1,())=w:=rfl
    rw [hww,restR]
    cases moreR w last p with
    | error e=>rfl
    | ok x =>
     obtain ⟨w',l'⟩:=x
     dsimp only
     rw [zmn p (by omega),zi (by omega)]
     exact ih (a+p.length+1) w' l' (i+1) m t1 (by omega) (by omega) (by omega) (by omega) (by simp only [sumL]; omega)
theorem nameB (s:List UInt8):(((textF 1 s 1 200).1==0)&&((textF 1 s 1 200).2.1==0))=nameOK s:=zdr 1 s 1 200
theorem zsv (n:Nat) (hn:200000≤n) (k0:K8) (s:List UInt8) (ps:List (List UInt8)) (hne:ps≠[]) (hs:sumL ps≤9000) (hsl:s.length≤9000) (hk:K8OK s ps k0) (c0:List UInt8) (c1:Int) (c2:List DecL) (c3:Int) (c4:List TagL) (c5 d0 d1:Int) (q0 q1:Nat) :
 F.zf.L8 n k0 n s ps ps (ps.length:Int) (0:Int) c0 c1 c2 c3 c4 c5 d0 d1 [] 0 [] 1000000 [] 0 0 0 0 0 q0 q1 0=some (outP (linesR s ps)):=by
 have hpl:=zbf ps
 cases ps with
 | nil=>exact absurd rfl hne
 | cons p r =>
  obtain ⟨m,hm⟩:∃ q,n=q+2:=⟨n - 2,by omega⟩
  have hp:=zce (show p∈p::r by simp)
  have hseg:=zak 58 p
  have hrn:=zku 58 p
  have hcut:F.zx n p [58]=some (seg 58 p,restN 58 p,decide (58∈p),()):=zbo n 58 (by omega)
  have hw0:∀ x:Int,0≤x∧x≤100000→IntKind.wrap .i64 (0+x)=x:=fun x hx=>by rw [Int.zero_add,ze (by omega)]
  have key:∀ m,20001≤m+1→F.zf.L8 n k0 (m+1) s (p::r) (p::r) ((p::r).length:Int) (0:Int) c0 c1 c2 c3 c4 c5 d0 d1 [] 0 [] 1000000 [] 0 0 0 0 0 q0 q1 0=match firstR p with
   | .error e=>some (badP e.1 e.2)
   | .ok x=>F.zf.L8 n k0 m s (p::r) (p::r) ((p::r).length:Int) ((1:Nat):Int) c0 c1 c2 c3 c4 c5 d0 d1 x.1 0 x.2 1000000 [] 0 ((p.length:Int)+1) 0 0 0 q0 q1 x.2.length:=by
   intro m hm
   rw [F.zf.L8]
   unfold F.zf.L8.step
   dsimp only
   rw [zf (by simp only [List.length_cons]; omega),show idx (p::r) 0=some p from rfl,za,zf (by omega:(0:Int)<2),beq_self_eq_true,cond_true,hcut,za]
   dsimp only
   rw [zbe n 1 _ 1 200 (by omega) (by omega),za,nameB]
   unfold firstR
   cases hnm:nameOK (seg 58 p)
   · rw [Bool.not_false,cond_true,if_pos rfl,hw0 0 (by omega),Bool.false_and,Bool.not_false,cond_true]
     exact hk.bad _ _ _ _ _ _ _ _ _ _ _ _ _ _ _ _ _ _ _ _ _ (by decide)
   · rw [Bool.not_true,cond_false,if_neg (by simp)]
     by_cases hin:(58:UInt8)∈p
     · rw [decide_eq_true hin,Bool.not_true,cond_false,if_neg (by simp [hin]),zgi n 58 (by omega),za]
       have hsum:=zba 58 (restN 58 p)
       have hsn:=zbf (splitL 58 (restN 58 p))
       have hrl:(seg 58 p).length+1+(restN 58 p).length≤p.length:=by
        unfold restN
        rw [if_pos hin,List.length_drop]
        have:=za1 hin
        omega
       have hA:IntKind.wrap .i64 (((seg 58 p).length:Int)+1)=((seg 58 p).length:Int)+1:=ze (by omega)
       have hP:IntKind.wrap .i64 ((p.length:Int)+1)=(p.length:Int)+1:=ze (by omega)
       rw [hA,hP]
       refine (znz n hn _ _ (splitL 58 (restN 58 p)) (by omega) c0 c1 c2 c3 c4 c5 d0 d1 (seg 58 p) 0 1000000 [] 0 0 0 0 q0 q1 ?_ (splitL 58 (restN 58 p)) [] _ 0 n rfl (by simp) (by omega) (by omega) (by omega) (by omega)).trans ?_
       · intro acc a l
         rw [show ((17:Int)==0)=false from rfl,Bool.false_and,Bool.not_false,cond_true]
         exact hk.bad _ _ _ _ _ _ _ _ _ _ _ _ _ _ _ _ _ _ _ _ _ (by decide)
       · cases readVals (splitL 58 (restN 58 p)) [] (((seg 58 p).length:Int)+1) with
         | error b=>rfl
         | ok vs =>
          dsimp only
          rw [Bool.and_self,Bool.not_true,cond_false,hw0 ((p.length:Int)+1) (by omega)]
          rfl
     · rw [decide_eq_false hin,Bool.not_false,cond_true,if_pos hin,hw0 _ (by omega),Bool.false_and,Bool.not_false,cond_true]
       exact hk.bad _ _ _ _ _ _ _ _ _ _ _ _ _ _ _ _ _ _ _ _ _ (by decide)
  have key2:∀ m,20001≤m+1→∀ nm (vs:List DecL) (a:Int) (l:Nat),a=(p.length:Int)+1→F.zf.L8 n k0 (m+1) s (p::r) (p::r) ((p::r).length:Int) ((1:Nat):Int) c0 c1 c2 c3 c4 c5 d0 d1 nm 0 vs 1000000 [] 0 a 0 0 0 q0 q1 l=some (outP (secondR s p nm vs r)):=by
   intro m hm nm vs a l hA
   rw [F.zf.L8]
   unfold F.zf.L8.step
   dsimp only
   cases r with
   | nil =>
    rw [zg (by simp),secondR]
    exact hk.one (by simp) _ _ _ _ _ _ _ _ _ _ _ _ _ _ _ _ _ _ _
   | cons q r =>
    have hq:=zce (show q∈p::q::r by simp)
    rw [zf (by simp only [List.length_cons]; omega),show idx (p::q::r) ((1:Nat):Int)=some q from rfl,za,zf (by omega),show (((1:Nat):Int)==0)=false from rfl,cond_false,show (((1:Nat):Int)==1)=true from rfl,cond_true,zuu n (by omega),za]
    have hwa:IntKind.wrap .i64 (a+0)=a:=by rw [Int.add_zero,ze (by omega)]
    rw [secondR]
    by_cases h0:kindR q=0
    · rw [if_pos h0,if_pos h0]
      dsimp only
      rw [show ((16:Int)==0)=false from rfl,Bool.not_false,cond_true,Bool.false_and,Bool.not_false,cond_true,hwa,hA]
      exact hk.bad _ _ _ _ _ _ _ _ _ _ _ _ _ _ _ _ _ _ _ _ _ (by decide)
    · rw [if_neg h0,if_neg h0]
      dsimp only
      rw [beq_self_eq_true,Bool.not_true,cond_false,Bool.and_self,Bool.not_true,cond_false]
      simp only [sumL,List.map_cons,List.sum_cons,List.length_cons] at hs hpl
      rw [zmn q (by omega),show IntKind.wrap .i64 (((1:Nat):Int)+1)=((2:Nat):Int) from rfl,hA]
      have:=zn0 n hn k0 s (p::q::r) (by simp only [sumL,List.map_cons,List.sum_cons]; omega) hk (by simp) c0 c1 c2 c3 c4 c5 d0 d1 q0 q1 l r ((p.length:Int)+1+(q.length+1)) (nm,kindR q,vs,1000000,[],0,()) 0 2 m rfl (by omega) (by simp) (by omega) (by omega) (by simp only [sumL]; omega)
      rw [show (p.length:Int)+1+(q.length+1)=(p.length:Int)+1+q.length+1 by omega] at this ⊢
      exact this
  have k1:=key (m+1) (by omega)
  have k2:=key2 m (by omega)
  have hmm:n=m+1+1:=hm
  rw [linesR]
  have goal:∀ j,j=m+1+1→F.zf.L8 n k0 j s (p::r) (p::r) ((p::r).length:Int) (0:Int) c0 c1 c2 c3 c4 c5 d0 d1 [] 0 [] 1000000 [] 0 0 0 0 0 q0 q1 0=some (outP (match firstR p with
   | .error e => .error e
   | .ok x=>secondR s p x.1 x.2 r)):=by
   intro j hj
   rw [hj,k1]
   cases firstR p with
   | error e=>rfl
   | ok x=>exact k2 x.1 x.2 _ _ rfl
  exact goal n hmm
theorem zsw (n:Nat) (hn:200000≤n) (s:List UInt8) (hs:s.length≤1000000):F.zf n s=some (parseD s):=by
 unfold F.zf parseD
 rw [bdec]
 by_cases h:8192<s.length
 · rw [if_pos (by omega),if_pos h]; rfl
 · rw [if_neg (by omega),if_neg h,zgi n 124 hs,za]
   have hsum:=zba 124 s
   refine zsv n hn _ s (splitL 124 s) (zbz 124 s) (by omega) (by omega) ⟨?_,?_,?_⟩ [] 0 [] 0 [] 0 0 0 0 0
   · intro c0 c1 c2 c3 c4 c5 d0 d1 e0 e1 e2 e3 e4 e5 e6 e7 e a q0 q1 q2 he
     rw [beq_eq_false_iff_ne.2 he,Bool.false_and,cond_false,Bool.not_false,cond_true]
     rfl
   · intro h2 c0 c1 c2 c3 c4 c5 d0 d1 e0 e1 e2 e3 e4 e5 e6 e7 q0 q1 q2
     rw [beq_self_eq_true,Bool.and_self,cond_true,zg (by omega),Bool.not_true,cond_false]
   · intro h2 c0 c1 c2 c3 c4 c5 d0 d1 e0 e1 e2 e3 e4 e5 e6 e7 q0 q1 q2
     rw [beq_self_eq_true,Bool.and_self,cond_true,zf (by omega),Bool.false_and,Bool.not_false,cond_true]
     rfl
end Go.AM
set_option linter.unusedVariables false
set_option linter.unusedSimpArgs false
namespace Go.AM
end Go.AM
set_option linter.unusedVariables false
set_option linter.unusedSimpArgs false
namespace Go.AM
end Go.AM
set_option linter.unusedVariables false
set_option linter.unusedSimpArgs false
namespace Go.AM
theorem zg6:∀ (r:List (List UInt8)) (acc:List TagL) (a:Int) (l:List TagL),tagsR r acc a = .ok l→(∀ t∈acc,tagGood t=true)→∀ t∈l,tagGood t=true
 | [],acc,a,l,h,hg=>by cases h; exact hg
 | p :: r,acc,a,l,h,hg=>by
  rw [tagsR] at h
  split at h
  · rename_i hc
    refine zg6 r _ _ _ h (fun t ht => ?_)
    rcases List.mem_append.1 ht with ht | ht
    · exact hg t ht
    · rw [List.mem_singleton.1 ht]; exact hc.1
  · cases h
theorem zuw {t:TagL} (h:TagS t):TagLOK t:=⟨by have:=h.1; omega,by have:=h.2; omega⟩
end Go.AM
set_option linter.unusedVariables false
set_option linter.unusedSimpArgs false
namespace Go.AM
end Go.AM
set_option linter.unusedVariables false
set_option linter.unusedSimpArgs false
namespace Go.AM
structure InvM (m:MetD):Prop where
 nm:nameOK m.1=true
 kd:kindB m.2.1=true
 vs:(∀ d∈m.2.2.1,DecLOK d∧decC d=0)∧1≤m.2.2.1.length∧m.2.2.1.length≤64
 rt:rateB m.2.1 m.2.2.2.1=true
 tg:(∀ t∈m.2.2.2.2.1,tagGood t=true)∧m.2.2.2.2.1.length≤32∧StrictT m.2.2.2.2.1
 tm:timeB m.2.2.2.2.2.1=true
theorem InvM.right {m:MetD} (h:InvM m):RightM m:=by
 have hn:=zp0 h.nm
 refine ⟨⟨by omega,⟨by have:=h.vs.2.2; omega,fun d hd=>(h.vs.1 d hd).1⟩,by have:=h.tg.2.1; omega,fun t ht=>zuw (zg5 (h.tg.1 t ht))⟩,?_⟩
 have hv:valsB m.2.2.1=true:=by
  unfold valsB
  simp only [Bool.and_eq_true,decide_eq_true_eq]
  exact ⟨h.vs.2.1,h.vs.2.2,List.all_eq_true.2 (fun d hd=>by simp [(h.vs.1 d hd).2])⟩
 have ht:tagsB m.2.2.2.2.1=true:=by
  unfold tagsB
  simp only [Bool.and_eq_true,decide_eq_true_eq]
  exact ⟨h.tg.2.1,List.all_eq_true.2 h.tg.1⟩
 unfold chkM
 rw [h.nm,h.kd,hv,h.rt,ht,h.tm]
 rfl
theorem RightM.inv {m:MetD} (h:RightM m) (hs:StrictT m.2.2.2.2.1):InvM m:=by
 obtain ⟨c1,c2,c3,c4,c5,c6⟩:=zgf h.chk
 have ht:=znw h
 exact ⟨c1,c2,znv h,c4,⟨fun t htm=>(ht.1 t htm).2,ht.2,hs⟩,c6⟩
theorem zn1 {p:List UInt8} (h:(parseR p).2.1.1=0):DecLOK ((parseR p).1.1,(parseR p).1.2.1,(parseR p).1.2.2.1)∧decC ((parseR p).1.1,(parseR p).1.2.1,(parseR p).1.2.2.1)=0:=by
 obtain ⟨neg,c,e,h1,h2,h3,h4⟩:=zsl h
 rw [h1]
 refine ⟨⟨trivial,⟨by simp,?_⟩,h3⟩,h4⟩
 have:=zas
 simp only
 omega
theorem zfv:∀ (r:List (List UInt8)) (acc:List DecL) (a:Int) (vs:List DecL),readVals r acc a = .ok vs→(∀ d∈acc,DecLOK d∧decC d=0)→acc.length≤64→(∀ d∈vs,DecLOK d∧decC d=0)∧vs.length≤64∧vs.length=acc.length+r.length
 | [],acc,a,vs,h,hd,hl=>by cases h; exact ⟨hd,hl,by simp⟩
 | p :: r,acc,a,vs,h,hd,hl=>by
  rw [readVals] at h
  split at h
  · rename_i hc
    have hr:=zfv r _ _ _ h (fun d hd'=>by
     rcases List.mem_append.1 hd' with hd' | hd'
     · exact hd d hd'
     · rw [List.mem_singleton.1 hd']; exact zn1 hc.1) (by simp; omega)
    refine ⟨hr.1,hr.2.1,?_⟩
    have:=hr.2.2
    simp at this ⊢
    omega
  · cases h
theorem ze1:∀ (r:List (List UInt8)) (acc:List DecL) (a b:Int),readVals r acc a = .error b→a≤b∧b<a+sumL r
 | [],acc,a,b,h=>by cases h
 | p :: r,acc,a,b,h=>by
  rw [readVals] at h
  simp only [sumL,List.map_cons,List.sum_cons]
  split at h
  · have:=ze1 r _ _ _ h
    simp only [sumL] at this
    omega
  · cases h; omega
theorem zsx {s:List UInt8} (h:kindR s≠0):kindB (kindR s)=true:=by
 revert h
 unfold kindR
 repeat' split
 all_goals first | (intro _; rfl) | (intro h; exact absurd rfl h)
theorem zsy {m:MetD} (h:InvM m) {last:Int} {p:List UInt8} {m':MetD} {l:Int} (hr:moreR m last p = .ok (m',l)):InvM m':=by
 cases p with
 | nil=>cases hr
 | cons x s =>
  rw [moreR] at hr
  split at hr
  · split at hr
    · cases hr
    · split at hr
      · cases hr
      · rename_i hc
        cases hr
        have h0:(rateR s).2.1.1=0:=Classical.byContradiction fun hh=>hc (Or.inl hh)
        obtain ⟨_,r1,r2,_⟩:=zhs h0
        refine ⟨h.nm,h.kd,h.vs,?_,h.tg,h.tm⟩
        unfold rateB
        simp only [Bool.and_eq_true,decide_eq_true_eq]
        refine ⟨r1,r2,?_⟩
        by_cases h2:m.2.1=2
        · have:(rateR s).1=1000000:=Classical.byContradiction fun hh=>hc (Or.inr ⟨h2,hh⟩)
          simp [this]
        · simp [h2]
  · split at hr
    · split at hr
      · cases hr
      · split at hr
        · cases hr
        · rename_i l' hT
          split at hr
          · cases hr
          · rename_i h32
            cases hr
            have hg:=zg6 _ _ _ _ hT (fun t ht=>by cases ht)
            refine ⟨h.nm,h.kd,h.vs,h.rt,⟨fun t ht=>hg t ((ziu _ _).1 ht),?_,zez _⟩,h.tm⟩
            have:=ziv l'
            show (normT l').length≤32
            omega
    · split at hr
      · split at hr
        · cases hr
        · split at hr
          · cases hr
          · rename_i hc
            cases hr
            have h0:(parseNum s 1 1099511627776).2.1.1=0:=Classical.byContradiction hc
            obtain ⟨_,r1,r2,r3,r4,_⟩:=zdt h0
            refine ⟨h.nm,h.kd,h.vs,h.rt,h.tg,?_⟩
            unfold timeB
            simp only [Bool.and_eq_true,decide_eq_true_eq]
            rw [r1]
            omega
      · cases hr
theorem zp1 {m:MetD} {last:Int} {p:List UInt8} {e:Int} (hr:moreR m last p = .error e):e≠0:=by
 cases p with
 | nil=>cases hr; decide
 | cons x s =>
  rw [moreR] at hr
  split at hr
  · split at hr
    · cases hr; decide
    · split at hr<;>cases hr; decide
  · split at hr
    · split at hr
      · cases hr; decide
      · split at hr
        · cases hr; decide
        · split at hr<;>cases hr; decide
    · split at hr
      · split at hr
        · cases hr; decide
        · split at hr<;>cases hr; decide
      · cases hr; decide
theorem zkv:∀ (r:List (List UInt8)) (a:Int) (m:MetD) (last:Int),InvM m→(∀ m',restR r a m last = .ok m'→InvM m')∧(∀ e b,restR r a m last = .error (e,b)→e≠0∧a≤b∧b<a+sumL r)
 | [],a,m,last,h=>⟨fun m' hr=>by cases hr; exact h,fun e b hr=>by cases hr⟩
 | p :: r,a,m,last,h=>by
  rw [restR]
  simp only [sumL,List.map_cons,List.sum_cons]
  cases hm:moreR m last p with
  | error e=>exact ⟨fun m' hr=>(by cases hr),fun e b hr=>by cases hr; exact ⟨zp1 hm,by omega,by omega⟩⟩
  | ok x =>
   obtain ⟨m1,l1⟩:=x
   obtain ⟨h1,h2⟩:=zkv r (a+p.length+1) m1 l1 (zsy h hm)
   refine ⟨h1,fun e b hr => ?_⟩
   have:=h2 e b hr
   simp only [sumL] at this
   omega
theorem zp2 {s:List UInt8} {nm:List UInt8} {vs:List DecL} (h:firstR s = .ok (nm,vs)):nameOK nm=true∧(∀ d∈vs,DecLOK d∧decC d=0)∧1≤vs.length∧vs.length≤64:=by
 unfold firstR at h
 split at h
 · cases h
 · rename_i hnm
   split at h
   · cases h
   · split at h
     · rename_i vs' hv
       cases h
       obtain ⟨h1,h2,h3⟩:=zfv _ _ _ _ hv (fun d hd=>by cases hd) (by simp)
       have:=List.length_pos_iff.2 (zbz 58 (restN 58 s))
       simp only [List.length_nil,Nat.zero_add] at h3
       exact ⟨by simpa using hnm,h1,by omega,h2⟩
     · cases h
theorem zn2 {s:List UInt8} {e a:Int} (h:firstR s = .error (e,a)):e≠0∧0≤a∧a≤s.length:=by
 unfold firstR at h
 split at h
 · cases h; exact ⟨by decide,by omega,by omega⟩
 · split at h
   · cases h; exact ⟨by decide,by omega,by omega⟩
   · rename_i hin
     split at h
     · cases h
     · rename_i b hv
       cases h
       have h1:=ze1 _ _ _ _ hv
       have h2:=zba 58 (restN 58 s)
       have hin':(58:UInt8)∈s:=Classical.byContradiction hin
       have h3:(restN 58 s).length=s.length - ((seg 58 s).length+1):=by unfold restN; rw [if_pos hin',List.length_drop]
       have h4:=za1 hin'
       exact ⟨by decide,by omega,by omega⟩
theorem zp3 (s:List UInt8) (ps:List (List UInt8)) (hsum:sumL ps=s.length+1):(∀ m,linesR s ps = .ok m→InvM m)∧(∀ e a,linesR s ps = .error (e,a)→e≠0∧0≤a∧a≤s.length):=by
 cases ps with
 | nil=>exact ⟨fun m h=>(by cases h),fun e a h=>by cases h; exact ⟨by decide,by omega,by omega⟩⟩
 | cons p r =>
  simp only [sumL,List.map_cons,List.sum_cons] at hsum
  rw [linesR]
  cases hf:firstR p with
  | error x =>
   obtain ⟨e,a⟩:=x
   refine ⟨fun m h=>(by cases h),fun e a h => ?_⟩
   cases h
   have:=zn2 hf
   exact ⟨this.1,this.2.1,by omega⟩
  | ok x =>
   obtain ⟨nm,vs⟩:=x
   obtain ⟨h1,h2,h3,h4⟩:=zp2 hf
   dsimp only
   cases r with
   | nil =>
    rw [secondR]
    exact ⟨fun m h=>(by cases h),fun e a h=>by cases h; exact ⟨by decide,by omega,by omega⟩⟩
   | cons q r =>
    simp only [List.map_cons,List.sum_cons] at hsum
    rw [secondR]
    by_cases h0:kindR q=0
    · rw [if_pos h0]
      exact ⟨fun m h=>(by cases h),fun e a h=>by cases h; exact ⟨by decide,by omega,by omega⟩⟩
    · rw [if_neg h0]
      have inv:InvM (nm,kindR q,vs,1000000,[],0,()):=⟨h1,zsx h0,⟨h2,h3,h4⟩,by
       unfold rateB; simp,⟨fun t ht=>(by cases ht),by simp,List.Pairwise.nil⟩,(show timeB 0=true by decide)⟩
      obtain ⟨g1,g2⟩:=zkv r ((p.length:Int)+1+(q.length+1)) _ 0 inv
      refine ⟨g1,fun e a h => ?_⟩
      have:=g2 e a h
      simp only [sumL] at this
      omega
theorem zkw (s:List UInt8):((parseD s).2.1=(0,0,())∧InvM (parseD s).1)∨(∃ e a,e≠0∧0≤a∧a≤(s.length:Int)∧parseD s=badP e a):=by
 unfold parseD
 split
 · exact Or.inr ⟨12,0,by decide,by omega,by omega,rfl⟩
 · obtain ⟨h1,h2⟩:=zp3 s (splitL 124 s) (zba 124 s)
   cases hl:linesR s (splitL 124 s) with
   | ok m=>exact Or.inl ⟨rfl,h1 m hl⟩
   | error x =>
    obtain ⟨e,a⟩:=x
    obtain ⟨g1,g2,g3⟩:=h2 e a hl
    exact Or.inr ⟨e,a,g1,g2,g3,rfl⟩
end Go.AM
set_option linter.unusedVariables false
set_option linter.unusedSimpArgs false
namespace Go.AM
end Go.AM
set_option linter.unusedVariables false
set_option linter.unusedSimpArgs false
namespace Go.AM
def sdM (s:List UInt8):MetR:=(sdParse s).getD (badM 11 0)
theorem zkx (s:List UInt8):sdParse s=some (sdM s):=by
 unfold sdM
 rcases zkp s with ⟨c,a,h,_⟩ | ⟨_,_,_,_,_,_,_,_,_,_,_,_,_,h⟩<;>rw [h]<;>rfl
def fmtB (f:Int):Bool:=decide (1≤f)&&decide (f≤3)
def parseT (s:List UInt8) (f:Int):MetR:=
 if fmtB f=false then badM 29 0 else if 8192<s.length then badM 12 0 else if f=1 then sdM s else if f=2 then parseD s else grParse s
theorem ziy {f:Int} (h:fmtB f=true):f=1∨f=2∨f=3:=by
 unfold fmtB at h
 simp only [Bool.and_eq_true,decide_eq_true_eq] at h
 omega
theorem zky (n:Nat) (hn:200000≤n) (s:List UInt8) (hs:s.length≤1000000000) (f:Int):F.zat n s f=some (parseT s f):=by
 unfold F.zat parseT
 have hd:decide ((s.length:Int)>8192)=decide (8192<s.length):=decide_eq_decide.2 (by omega)
 rw [hd]
 cases hf:fmtB f
 · have h1:f≠1:=fun e=>by rw [e] at hf; cases hf
   have h2:f≠2:=fun e=>by rw [e] at hf; cases hf
   have h3:f≠3:=fun e=>by rw [e] at hf; cases hf
   rw [beq_eq_false_iff_ne.2 h1,beq_eq_false_iff_ne.2 h2,beq_eq_false_iff_ne.2 h3,if_pos rfl]
   rfl
 · rw [if_neg (by simp)]
   by_cases hl:8192<s.length
   · rw [decide_eq_true hl,if_pos hl]
     rcases ziy hf with rfl | rfl | rfl<;>rfl
   · rw [decide_eq_false hl,if_neg hl]
     rcases ziy hf with rfl | rfl | rfl
     · rw [beq_self_eq_true,cond_true,cond_false,znq n hn s (by omega),zkx,if_pos rfl]
       rfl
     · rw [show ((2:Int)==1)=false from rfl,cond_false,beq_self_eq_true,cond_true,cond_false,zsw n hn s (by omega),if_neg (by decide),if_pos rfl]
       rfl
     · rw [show ((3:Int)==1)=false from rfl,show ((3:Int)==2)=false from rfl,cond_false,cond_false,beq_self_eq_true,cond_true,cond_false,znu n hn s (by omega),if_neg (by decide),if_neg (by decide)]
       rfl
theorem ze2 (s:List UInt8) (f:Int):((parseT s f).2.1=(0,0,())∧(parseT s f).1.2.2.1.length≤64∧(parseT s f).1.2.2.2.2.1.length≤32)∨(∃ c a,c≠0∧0≤a∧a≤(s.length:Int)∧parseT s f=badM c a):=by
 unfold parseT
 split
 · exact Or.inr ⟨29,0,by decide,by omega,by omega,rfl⟩
 · split
   · exact Or.inr ⟨12,0,by decide,by omega,by omega,rfl⟩
   · split
     · rcases zkp s with ⟨c,a,h,h1,h2,h3⟩ | ⟨_,_,_,_,_,_,_,_,_,_,_,_,_,h⟩
       · rw [zkx] at h
         exact Or.inr ⟨c,a,h1,h2,h3,Option.some.inj h⟩
       · rw [zkx] at h
         rw [Option.some.inj h]
         exact Or.inl ⟨rfl,(show (1:Nat)≤64 by omega),(show (0:Nat)≤32 by omega)⟩
     · split
       · rcases zkw s with ⟨h,hI⟩ | ⟨e,a,h1,h2,h3,h⟩
         · exact Or.inl ⟨h,hI.vs.2.2,hI.tg.2.1⟩
         · exact Or.inr ⟨e,a,h1,h2,h3,h⟩
       · rcases zsp s with ⟨c,a,h,h1,h2,h3⟩ | ⟨_,_,_,_,_,_,_,_,_,_,_,h⟩
         · exact Or.inr ⟨c,a,h1,h2,h3,h⟩
         · rw [h]
           exact Or.inl ⟨rfl,(show (1:Nat)≤64 by omega),(show (0:Nat)≤32 by omega)⟩
end Go.AM
set_option linter.unusedVariables false
set_option linter.unusedSimpArgs false
namespace Go.AM
abbrev MetL:=List UInt8×Int×List DecL×Int×List TagL×Int
def toL (m:MetD):MetL:=(m.1,m.2.1,m.2.2.1,m.2.2.2.1,m.2.2.2.2.1,m.2.2.2.2.2.1)
def opM (m:MetL):MetD:=(m.1,m.2.1,m.2.2.1,m.2.2.2.1,m.2.2.2.2.1,m.2.2.2.2.2,())
def BatOK (l:List MetL):Prop:=∀ m∈l,MetOK (opM m)
def RightB (l:List MetL):Prop:=l.length≤1000∧∀ m∈l,RightM (opM m)∧StrictT m.2.2.2.2.1
theorem RightB.ok {l:List MetL} (h:RightB l):BatOK l:=fun m hm=>(h.2 m hm).1.ok
end Go.AM
set_option linter.unusedVariables false
set_option linter.unusedSimpArgs false
namespace Go.AM
end Go.AM
set_option linter.unusedVariables false
set_option linter.unusedSimpArgs false
namespace Go.AM
def SmallL (l:List MetL):Prop:=∀ x∈l,x.2.2.1.length≤1000∧x.2.2.2.2.1.length≤1000
theorem zlu (n:Nat) (hn:200000≤n) (X:Type) (k0:Unit→Option X) (kr:Bool→Option X) (l:List MetL) (hl:l.length≤1000) (hs:SmallL l):∀ (j i m:Nat),i+j=l.length→j<m→F.zp.L4 n k0 kr m l l (i:Int)=k0 ():=by
 intro j
 induction j with
 | zero =>
  intro i m h1 hm
  obtain ⟨m,rfl⟩:∃ q,m=q+1:=⟨m - 1,by omega⟩
  rw [F.zp.L4]
  unfold F.zp.L4.step
  dsimp only
  rw [zg (by omega)]
 | succ j ih =>
  intro i m h1 hm
  obtain ⟨m,rfl⟩:∃ q,m=q+1:=⟨m - 1,by omega⟩
  have hx:=hs l[i] (List.getElem_mem (by omega))
  have he:F.zh n (l[i].1,l[i].2.1,l[i].2.2.1,l[i].2.2.2.1,l[i].2.2.2.2.1,l[i].2.2.2.2.2,()) (l[i].1,l[i].2.1,l[i].2.2.1,l[i].2.2.2.1,l[i].2.2.2.2.1,l[i].2.2.2.2.2,())=some true:=
   zi8 n hn (l[i].1,l[i].2.1,l[i].2.2.1,l[i].2.2.2.1,l[i].2.2.2.2.1,l[i].2.2.2.2.2,()) (by have:=hx.1; show l[i].2.2.1.length≤_; omega) (by have:=hx.2; show l[i].2.2.2.2.1.length≤_; omega)
  rw [F.zp.L4]
  unfold F.zp.L4.step
  dsimp only
  rw [zf (by omega),za7 (by omega:i<l.length),za,za,he,za,Bool.not_true,cond_false,zi (by omega),ih (i+1) m (by omega) (by omega)]
theorem zfw (n:Nat) (hn:200000≤n) (l:List MetL) (hl:l.length≤1000) (hs:SmallL l):F.zp n l l=some true:=by
 unfold F.zp
 rw [beq_self_eq_true,Bool.not_true,cond_false]
 exact zlu n hn Bool _ _ l hl hs l.length 0 n (by omega) (by omega)
end Go.AM
set_option linter.unusedVariables false
set_option linter.unusedSimpArgs false
namespace Go.AM
abbrev EvL:=Int×Int×Int×List MetL×Int×Int
abbrev LnL:=Int×Int×List UInt8×Bool
theorem zbg {X:Type} (a:Option (List AV)) (k:Option X):eqK a a k=k:=by unfold eqK; rw [if_pos rfl]
theorem zux (n:Nat) {s:List UInt8} (h:s≠[]) (hs:s.length≤1000000):F.zap n s [10]=some (seg 10 s,restN 10 s,decide (10∈s),()):=by
 unfold F.zap
 have hi:O.bindex n s [10]=some (Lib.indexByte s 10):=by
  cases s with
  | nil=>exact absurd rfl h
  | cons x s=>rfl
 rw [hi,za,zml]
 by_cases hm:10∈s
 · have hl:=za1 hm
   rw [if_pos hm,zf (by omega),decide_eq_true hm]
   have e1:sub s 0 ((seg 10 s).length:Int)=some (seg 10 s):=by
    have:=zp s 0 (seg 10 s).length (by omega) (by omega)
    rw [List.drop_zero,zkl] at this
    exact this
   have e2:sub s (((seg 10 s).length+1:Nat):Int) (s.length:Int)=some (restN 10 s):=by
    rw [zaj (by omega)]
    unfold restN
    rw [if_pos hm]
   rw [e1,za]
   show (sub s (IntKind.wrap .i64 (((seg 10 s).length:Int)+1)) _).bind _=_
   rw [zi (by omega),e2]
   rfl
 · rw [if_neg hm,zg (by omega),decide_eq_false hm]
   unfold restN
   rw [if_neg hm,za9 hm]
def lineEv (f:Int) (x:LnL):EvL:=
 if x.2.2.2=true then (2,x.1,x.2.1,[],12,x.1) else if (parseT x.2.2.1 f).2.1.1=0 then (1,x.1,x.2.1,[toL (parseT x.2.2.1 f).1],0,0) else (2,x.1,x.2.1,[],(parseT x.2.2.1 f).2.1.1,x.1+(parseT x.2.2.1 f).2.1.2.1)
theorem growE {X:Type} {v:List EvL} (h:v.length≤100000) (y:Option X):(bif decide ((v.length+1)*64≤2 ^ 46)&&decide (0<64∧64≤2 ^ 20) then y else none)=y:=by
 rw [decide_eq_true (by omega)]; rfl
theorem growN {X:Type} {v:List LnL} (h:v.length≤100000) (y:Option X):(bif decide ((v.length+1)*40≤2 ^ 46)&&decide (0<40∧40≤2 ^ 20) then y else none)=y:=by
 rw [decide_eq_true (by omega)]; rfl
def lnS (mo:Int):List (List UInt8)→Nat→List LnL
 | [],_=>[]
 | [_],_=>[]
 | p::q::r,a=>((a:Int),((a+p.length+1:Nat):Int),(if (p.length:Int)>mo then [] else p),decide ((p.length:Int)>mo))::lnS mo (q::r) (a+p.length+1)
def lstS:List (List UInt8)→List UInt8
 | []=>[]
 | [p]=>p
 | _::q::r=>lstS (q::r)
theorem zp4 {p:List UInt8} {l:List (List UInt8)} (h:l≠[]):lstS (p::l)=lstS l:=by
 cases l with
 | nil=>exact absurd rfl h
 | cons q r=>rfl
theorem zsz (mo:Int) {p:List UInt8} {l:List (List UInt8)} (h:l≠[]) (a:Nat):lnS mo (p::l) a=((a:Int),((a+p.length+1:Nat):Int),(if (p.length:Int)>mo then [] else p),decide ((p.length:Int)>mo))::lnS mo l (a+p.length+1):=by
 cases l with
 | nil=>exact absurd rfl h
 | cons q r=>rfl
theorem ziz (c:UInt8) (s:List UInt8):splitL c s≠[]:=by
 rw [zbp]
 split<;>simp
theorem zb1 {s:List UInt8} (h:10∈s):(restN 10 s).length+(seg 10 s).length+1=s.length:=by
 have:=za1 h
 unfold restN
 rw [if_pos h,List.length_drop]
 omega
def tailE (p:List UInt8) (a:Nat):List EvL:=if p=[] then [] else [(3,(a:Int),((a+p.length:Nat):Int),[],30,(a:Int))]
end Go.AM
set_option linter.unusedVariables false
set_option linter.unusedSimpArgs false
namespace Go.AM
theorem bq {X:Type} {Q:X→Prop} {c:Bool} {a b:X} (h1:c=true→Q a) (h2:c=false→Q b):Q (bif c then a else b):=by
 cases c
 · exact h2 rfl
 · exact h1 rfl
theorem wlo (x:Int) : -9223372036854775808≤IntKind.wrap .i64 x∧IntKind.wrap .i64 x≤9223372036854775807:=by
 rw [IntKind.wrap_i64]; omega
theorem zgj (n:Nat) {l:List UInt8} (h:l.length≤70368744177664):F.zag n l=some l:=by
 unfold F.zag
 cases l with
 | nil=>exact if_pos rfl
 | cons x l =>
  simp only [List.length_cons] at h
  simp only [List.isEmpty_cons,cond_false,List.length_cons,List.nil_append]
  rw [decide_eq_true (by omega)]; rfl
section
variable {X:Type} {Q:Option X→Prop} {n:Nat} {b:List UInt8}
theorem zp5 {kn:Int→Int→Option X} {c0 c1 c3 c4:Int} {c2:Bool} (h1:c2=true→Q (kn c0 c1)) (h2:c2=false→Q (kn c3 c4)):Q (F.za.C1_cur_Cur_Fail n kn c0 c1 c2 c3 c4):=by
 unfold F.za.C1_cur_Cur_Fail
 exact bq h1 h2
theorem fail2 {k1 k2:Int→Int→Option X} {e a c d:Int} {g:Bool} (h1:g=true→Q (k1 e a)) (h2:g=false→Q (k1 c d)) (h3:¬ (c=0∧d=0)→Q (k2 c d)) :
 Q (bif (c==(0:Int))&&(d==(0:Int)) then F.za.C1_cur_Cur_Fail n k1 e a g c d else F.za.C1_cur_Cur_Fail n k2 e a false c d):=
 bq (fun _=>zp5 h1 h2) (fun h=>zp5 (fun h=>by cases h) (fun _=>h3 (by simpa using h)))
theorem zp6 {kr:List UInt8→Int→Int→Int→Option X} {c0 p c d:Int} (hb:b.length≤70368744177664) (h0 : -1000000≤c0∧c0≤1000000) (hp:0≤p∧p≤b.length)
 (hk:∀ (l:List UInt8) (p' c' d':Int),0≤p'∧p'≤b.length→(l.length:Int)≤max c0 0→Q (kr l p' c' d')):Q (F.za.C1_cur_Cur_Take n kr c0 b p c d):=by
 unfold F.za.C1_cur_Cur_Take
 have nil:∀ c' d',Q (kr [] p c' d'):=fun c' d'=>hk _ _ _ _ hp (by simp; omega)
 refine bq (fun _=>nil _ _) fun _=>bq (fun _=>fail2 (fun _=>nil _ _) (fun _=>nil _ _) fun _=>nil _ _) fun h1=>bq (fun _=>fail2 (fun _=>nil _ _) (fun _=>nil _ _) fun _=>nil _ _) fun h2 => ?_
 rw [decide_eq_false_iff_not] at h1 h2
 obtain ⟨a,rfl⟩:=Int.eq_ofNat_of_zero_le hp.1
 obtain ⟨k,rfl⟩:=Int.eq_ofNat_of_zero_le (Int.not_lt.1 h1)
 rw [ze (by omega)] at h2
 rw [ze (x:=(a:Int)+(k:Int)) (by omega),ze (by omega),show (a:Int)+(k:Int) - (k:Int)=(a:Int) from by omega,show (a:Int)+(k:Int)=((a+k:Nat):Int) from by omega,zp b a (a+k) (by omega) (by omega),za,zgj n (by simp; omega),za]
 exact hk _ _ _ _ (by omega) (by simp; omega)
theorem zp7 {kr:Int→Int→Int→Int→Option X} {p c d:Int} (hb:b.length≤70368744177664) (hp:0≤p∧p≤b.length)
 (hk:∀ (x p' c' d':Int),0≤x∧x≤255→0≤p'∧p'≤b.length→Q (kr x p' c' d')):Q (F.za.C1_cur_Cur_Byte n kr b p c d):=by
 unfold F.za.C1_cur_Cur_Byte
 refine zp6 hb (by omega) hp fun l p' c' d' h hl=>bq (fun e => ?_) fun _=>hk _ _ _ _ (by omega) h
 cases l with
 | nil=>simp at e
 | cons x l =>
  have:idx (x::l) 0=some x:=rfl
  rw [this,za]
  exact hk _ _ _ _ (by have:=x.toNat_lt; omega) h
theorem zg7 (x y:Int):0≤bitsA .or .u64 x y∧bitsA .or .u64 x y≤18446744073709551615:=by
 have q:(BitVec.ofInt IntKind.u64.bits x|||BitVec.ofInt IntKind.u64.bits y).toNat<18446744073709551616:=(BitVec.ofInt IntKind.u64.bits x|||BitVec.ofInt IntKind.u64.bits y).isLt
 show 0≤IntKind.wrap .u64 ((BitVec.ofInt IntKind.u64.bits x|||BitVec.ofInt IntKind.u64.bits y).toNat:Int)∧IntKind.wrap .u64 ((BitVec.ofInt IntKind.u64.bits x|||BitVec.ofInt IntKind.u64.bits y).toNat:Int)≤_
 generalize (BitVec.ofInt IntKind.u64.bits x|||BitVec.ofInt IntKind.u64.bits y).toNat=k at q
 rw [IntWalk.u64_in _ (by omega)]
 omega
theorem zp8 {k0 : Int → Int → Int → Int→Int→Option X} {kr:Int→Int→Int→Int→Int→Int→Option X} (hb:b.length≤70368744177664)
 (h0:∀ (x k p c d:Int),0≤x∧x≤18446744073709551615→0≤p∧p≤b.length→Q (k0 x k p c d)) (hr:∀ (k e p c d:Int),0≤p∧p≤b.length→Q (kr 0 k e p c d)) :
 ∀ (m k:Nat) (v p c d:Int),k≤9→10≤m+k→0≤p∧p≤b.length→Q (F.za.L3_varint_read n k0 kr m v (k:Int) b p c d)
 | 0,k,v,p,c,d,hk,hm,hp=>by omega
 | m + 1, k, v, p, c, d, hk, hm, hp=>by
  show Q (F.za.L3_varint_read.step n (F.za.L3_varint_read n k0 kr m) k0 kr v (k:Int) b p c d)
  unfold F.za.L3_varint_read.step
  refine zp7 hb hp fun x p' c' d' hx h=>bq (fun _=>hr _ _ _ _ _ h) fun _ => ?_
  have e1:IntKind.wrap .i64 ((k:Int)+1)=((k+1:Nat):Int):=zi (by omega)
  have e2:IntKind.wrap .i64 (((k+1:Nat):Int) - 1)=(k:Int):=by rw [ze (by omega)]; omega
  have e3:IntKind.wrap .i64 ((7:Int)*(k:Int))=7*(k:Int):=ze (by omega)
  rw [e1,e2,e3]
  have neg:decide ((7:Int)*(k:Int)<0)=false:=decide_eq_false (by omega)
  have go:∀ w,¬ (k:Int)+1=10→Q (F.za.L3_varint_read n k0 kr m w ((k+1:Nat):Int) b p' c' d'):=fun w hw=>zp8 hb h0 hr m (k+1) w p' c' d' (by omega) (by omega) h
  refine bq (fun h10=>bq (fun _=>hr _ _ _ _ _ h) fun h1 => ?_) fun h10 => ?_
  · rw [neg,cond_false]
    rw [decide_eq_false_iff_not] at h1
    refine bq (fun h2 => ?_) fun _=>bq (fun _=>bq (fun _=>hr _ _ _ _ _ h) fun _=>h0 _ _ _ _ _ (zg7 _ _) h) fun _=>h0 _ _ _ _ _ (zg7 _ _) h
    rw [decide_eq_true_iff] at h2
    omega
  · rw [neg,cond_false]
    exact bq (fun _ => go _ (by have:¬ (((k+1:Nat):Int)=10):=by simpa using h10
                                omega)) fun _=>bq (fun _=>bq (fun _=>hr _ _ _ _ _ h) fun _=>h0 _ _ _ _ _ (zg7 _ _) h) fun _=>h0 _ _ _ _ _ (zg7 _ _) h
theorem zc6 {kr:Int→Int→Int→Int→Option X} {p c d:Int} (hn:2000≤n) (hb:b.length≤70368744177664) (hp:0≤p∧p≤b.length)
 (hk:∀ (x p' c' d':Int),0≤x∧x≤18446744073709551615→0≤p'∧p'≤b.length→Q (kr x p' c' d')):Q (F.za.C1_varint_Read n kr b p c d):=by
 unfold F.za.C1_varint_Read
 refine zp8 hb (fun x k p c d hx h=>hk _ _ _ _ hx h) (fun k e p c d h => ?_) n 0 0 p c d (by omega) (by omega) hp
 have z:∀ c' d',Q (kr 0 p c' d'):=fun c' d'=>hk _ _ _ _ (by omega) h
 rw [zbg]
 exact bq (fun _=>fail2 (fun _=>z _ _) (fun _=>z _ _) fun _=>z _ _) fun _=>z _ _
theorem zuy {kr:Int→Int→Int→Int→Option X} {e p c d lo hi:Int} (hn:2000≤n) (hb:b.length≤70368744177664) (hp:0≤p∧p≤b.length) (he:e≠0) (hl:0≤lo∧lo≤hi∧hi≤4611686018427387904)
 (hk:∀ (x p' c' d':Int),(c'=0∧d'=0→lo≤x∧x≤hi)→0≤p'∧p'≤b.length→Q (kr x p' c' d')):Q (F.za.C1_rec_bound_uint64 n kr e b p c d lo hi):=by
 unfold F.za.C1_rec_bound_uint64
 refine zc6 hn hb hp fun x p' c' d' hx h => ?_
 rw [IntWalk.u64_in lo (by omega),IntWalk.u64_in hi (by omega)]
 have bad:∀ {k1 k2:Int→Int→Option X},(∀ c d,k1 c d=kr x p' c d)→(∀ c d,k2 c d=kr x p' c d) →
  Q (bif (c'==(0:Int))&&(d'==(0:Int)) then F.za.C1_cur_Cur_Fail n k1 e p (!(e==(0:Int))) c' d' else F.za.C1_cur_Cur_Fail n k2 e p false c' d'):=fun q1 q2 =>
  fail2 (fun _=>by rw [q1]; exact hk _ _ _ _ (fun h=>absurd h.1 he) h) (fun h=>absurd (by simpa using h) he) fun hcd=>by rw [q2]; exact hk _ _ _ _ (fun h=>absurd h hcd) h
 refine bq (fun h1=>bq (fun _=>bad (fun _ _=>rfl) fun _ _=>rfl) fun h2=>hk _ _ _ _ (fun _ => ?_) h) fun _=>bad (fun _ _=>rfl) fun _ _=>rfl
 rw [decide_eq_true_iff] at h1
 have:x≤hi:=by simpa using h2
 exact ⟨h1,this⟩
theorem zdw {kr:Int→Int→Int→Int→Option X} {e p c d lo hi:Int} (hn:2000≤n) (hb:b.length≤70368744177664) (hp:0≤p∧p≤b.length) (he:e≠0) (hl:0≤lo∧lo≤hi∧hi≤4611686018427387904)
 (hk:∀ (x p' c' d':Int),(c'=0∧d'=0→lo≤x∧x≤hi)→0≤p'∧p'≤b.length→Q (kr x p' c' d')):Q (F.za.C1_rec_number n kr e b p c d lo hi):=by
 unfold F.za.C1_rec_number
 refine zuy hn hb hp he hl fun x p' c' d' hx h=>hk _ _ _ _ (fun hcd => ?_) h
 have:=hx hcd
 rw [ze (by omega)]
 exact this
def DI (ws:List (List UInt8)) (t:Nat):Prop:=ws.length≤65536∧t=ws.length∧∀ s∈ws,s.length≤200
theorem DI.nil:DI [] 0:=⟨by simp,rfl,fun s h=>by simp at h⟩
theorem zvt {kr:Bool→Int→Int→Option X} {kind c d q:Int} {s:List UInt8} (hn:2000≤n) (hs:s.length≤200) (hk:∀ r c' d',Q (kr r c' d')):Q (F.za.C1_dict_check n kr kind s c d q):=by
 unfold F.za.C1_dict_check
 rw [zhp n kind s (by omega) (by omega),za]
 exact bq (fun _=>bq (fun _=>hk _ _ _) fun _=>fail2 (fun _=>hk _ _ _) (fun _=>hk _ _ _) fun _=>hk _ _ _) fun _=>fail2 (fun _=>hk _ _ _) (fun _=>hk _ _ _) fun _=>hk _ _ _
theorem zvk {kr:Bool→Int→Int→Option X} {kind c d q:Int} {s:List UInt8} (hn:2000≤n) (hs:s.length≤200) (hk:∀ r c' d',Q (kr r c' d')):Q (F.za.C1_dict_check_1 n kr kind s c d q):=by
 unfold F.za.C1_dict_check_1
 rw [zhp n kind s (by omega) (by omega),za]
 exact bq (fun _=>bq (fun _=>hk _ _ _) fun _=>fail2 (fun _=>hk _ _ _) (fun _=>hk _ _ _) fun _=>hk _ _ _) fun _=>fail2 (fun _=>hk _ _ _) (fun _=>hk _ _ _) fun _=>hk _ _ _
abbrev WK (X:Type):=List UInt8→Int→Int→Int→List (List UInt8×Int)→List (List UInt8)→Nat→Option X
theorem zdx {kr:WK X} {kind f x p c d:Int} {mp:List (List UInt8×Int)} {ws:List (List UInt8)} {t:Nat} (hn:2000≤n) (hb:b.length≤70368744177664) (hp:0≤p∧p≤b.length) (hx:0≤x∧x≤18446744073709551615) (hd:DI ws t) (hl:ws.length<65536)
 (hk:∀ s (p' c' d':Int) mp' ws' t',0≤p'∧p'≤b.length→DI ws' t'→Q (kr s p' c' d' mp' ws' t')):Q (F.za.C8_dict_Dict_fresh n kr kind f x b p c d mp ws t):=by
 unfold F.za.C8_dict_Dict_fresh
 have hx2:IntKind.wrap .i64 (if (200:Int)<x then (200:Int) else x)≤200∧0≤IntKind.wrap .i64 (if (200:Int)<x then (200:Int) else x):=by
  by_cases h:200<x
  · rw [if_pos h]; decide
  · rw [if_neg h,ze (by omega)]; omega
 refine zp6 hb (by omega) hp fun s p' c' d' h hs=>bq (fun _=>hk _ _ _ _ _ _ _ h hd) fun _=>zvt hn (by omega) fun r c2 d2=>bq (fun _=>hk _ _ _ _ _ _ _ h hd) fun _ => ?_
 unfold mpLook
 cases mpGet mp s with
 | some v=>exact fail2 (fun _=>hk _ _ _ _ _ _ _ h hd) (fun _=>hk _ _ _ _ _ _ _ h hd) fun _=>hk _ _ _ _ _ _ _ h hd
 | none =>
  simp only
  rw [decide_eq_true (show (ws.length+1)*16≤2 ^ 46 by omega),hd.2.1]
  have e:Nat.beq ws.length ws.length=true:=nbeq.2 rfl
  rw [e]
  exact hk _ _ _ _ _ _ _ h ⟨by simp; omega,rfl,fun w hw=>by
   rcases List.mem_append.1 hw with h | h
   · exact hd.2.2 w h
   · rw [List.mem_singleton.1 h]; omega⟩
theorem zuz {kr:WK X} {kind f p c d:Int} {mp:List (List UInt8×Int)} {ws:List (List UInt8)} {t:Nat} (hn:2000≤n) (hb:b.length≤70368744177664) (hp:0≤p∧p≤b.length) (hd:DI ws t)
 (hk:∀ s (p' c' d':Int) mp' ws' t',0≤p'∧p'≤b.length→DI ws' t'→Q (kr s p' c' d' mp' ws' t')):Q (F.za.C1_dict_Dict_fresh n kr kind f b p c d mp ws t):=by
 unfold F.za.C1_dict_Dict_fresh
 refine bq (fun _=>fail2 (fun _=>hk _ _ _ _ _ _ _ hp hd) (fun _=>hk _ _ _ _ _ _ _ hp hd) fun _=>hk _ _ _ _ _ _ _ hp hd) fun hl => ?_
 rw [decide_eq_false_iff_not] at hl
 exact zc6 hn hb hp fun x p' c' d' hx h=>bq (fun _=>fail2 (fun _=>zdx hn hb h hx hd (by omega) hk) (fun _=>zdx hn hb h hx hd (by omega) hk) fun _=>zdx hn hb h hx hd (by omega) hk) fun _=>zdx hn hb h hx hd (by omega) hk
theorem zdy {k0:Int→Option X} (hk:∀ v,Q (k0 v)):∀ (m k:Nat) (c v:Int),k≤256→257≤m+k→Q (F.zaa.L5 n k0 m c v (k:Int))
 | 0,k,c,v,h1,h2=>by omega
 | m + 1,k,c,v,h1,h2=>by
  show Q (F.zaa.L5.step n (F.zaa.L5 n k0 m) k0 c v (k:Int))
  unfold F.zaa.L5.step
  refine bq (fun h => ?_) fun _=>hk _
  rw [decide_eq_true_iff] at h
  have e:IntKind.wrap .u8 (k:Int)=((UInt8.ofNat k).toNat:Int):=by
   have:IntKind.wrap .u8 (k:Int)=(k:Int):=by
    show (k:Int) % 256=k
    omega
   rw [this]
   simp
   omega
  rw [e,ztc,za,zi (by omega)]
  exact bq (fun _=>zdy hk m (k+1) c _ (by omega) (by omega)) fun _=>zdy hk m (k+1) c _ (by omega) (by omega)
theorem zu0 (hn:2000≤n) (c:Int):∃ v,F.zaa n c=some v:=by
 unfold F.zaa
 rw [zmk,za]
 exact bq (Q:=fun o=>∃ v,o=some v) (fun _=>⟨_,rfl⟩) fun _=>zdy (Q:=fun o=>∃ v,o=some v) (fun v=>⟨_,rfl⟩) n 0 c 0 (by omega) (by omega)
theorem zvu {kr:WK X} {kind p c d:Int} {mp:List (List UInt8×Int)} {ws:List (List UInt8)} {t:Nat} (hn:2000≤n) (hb:b.length≤70368744177664) (hp:0≤p∧p≤b.length) (hd:DI ws t)
 (hk:∀ s (p' c' d':Int) mp' ws' t',0≤p'∧p'≤b.length→DI ws' t'→Q (kr s p' c' d' mp' ws' t')):Q (F.za.C1_dict_Dict_Get n kr kind b p c d mp ws t):=by
 unfold F.za.C1_dict_Dict_Get
 have z:∀ s (p' c' d':Int),0≤p'∧p'≤b.length→Q (kr s p' c' d' mp ws t):=fun s p' c' d' h=>hk _ _ _ _ _ _ _ h hd
 obtain ⟨v,hv⟩:=zu0 hn kind
 rw [zbg,hv,za]
 refine bq (fun _=>z _ _ _ _ hp) fun _=>bq (fun _=>fail2 (fun _=>z _ _ _ _ hp) (fun _=>z _ _ _ _ hp) fun _=>z _ _ _ _ hp) fun _=>zc6 hn hb hp fun x p' c' d' hx h => ?_
 rw [zbg]
 refine bq (fun _=>z _ _ _ _ h) fun _=>bq (fun _=>zuz hn hb h hd hk) fun h0=>bq (fun _=>fail2 (fun _=>z _ _ _ _ h) (fun _=>z _ _ _ _ h) fun _=>z _ _ _ _ h) fun h1 => ?_
 have h0:¬ x=0:=by simpa using h0
 rw [decide_eq_false_iff_not,IntWalk.u64_in _ (by have:=hd.1; omega)] at h1
 obtain ⟨k,rfl⟩:=Int.eq_ofNat_of_zero_le hx.1
 rw [IntWalk.u64_in _ (by omega),show ((k:Int) - 1)=((k - 1:Nat):Int) from by omega,za7 (by omega),za]
 exact zvk hn (hd.2.2 _ (List.getElem_mem _)) fun r c2 d2=>bq (fun _=>z _ _ _ _ h) fun _=>z _ _ _ _ h
theorem zkz {kr:WK X} {e p c d kind lo hi:Int} {mp:List (List UInt8×Int)} {ws:List (List UInt8)} {t:Nat} (hn:2000≤n) (hb:b.length≤70368744177664) (hp:0≤p∧p≤b.length) (hd:DI ws t)
 (hk:∀ s (p' c' d':Int) mp' ws' t',0≤p'∧p'≤b.length→DI ws' t'→Q (kr s p' c' d' mp' ws' t')):Q (F.za.C1_rec_word n kr e b p c d mp ws kind lo hi t):=by
 unfold F.za.C1_rec_word F.za.C1_rec_bound_string
 refine zvu hn hb hp hd fun s p' c' d' mp' ws' t' h hd' => ?_
 have z:∀ c' d',Q (kr s p' c' d' mp' ws' t'):=fun c' d'=>hk _ _ _ _ _ _ _ h hd'
 exact bq (fun _=>bq (fun _=>fail2 (fun _=>z _ _) (fun _=>z _ _) fun _=>z _ _) fun _=>z _ _) fun _=>fail2 (fun _=>z _ _) (fun _=>z _ _) fun _=>z _ _
theorem zvl {kr:Int→Int→Int→Int→Option X} {e p c d:Int} (hb:b.length≤70368744177664) (hp:0≤p∧p≤b.length) (hk:∀ (x p' c' d':Int),0≤p'∧p'≤b.length→Q (kr x p' c' d')):Q (F.za.C1_rec_bound_int n kr e b p c d):=by
 unfold F.za.C1_rec_bound_int
 refine zp7 hb hp fun x p' c' d' hx h => ?_
 have:∃ v,F.zay n (IntKind.wrap .i64 x)=some v:=by
  unfold F.zay
  exact bq (Q:=fun o=>∃ v,o=some v) (fun _=>⟨_,rfl⟩) fun _=>⟨_,rfl⟩
 obtain ⟨v,hv⟩:=this
 rw [hv,za]
 exact bq (fun _=>fail2 (fun _=>hk _ _ _ _ h) (fun _=>hk _ _ _ _ h) fun _=>hk _ _ _ _ h) fun _=>hk _ _ _ _ h
theorem zvv {kr:Int→Int→Int→Bool→Int→Int→Option X} {p c d:Int} (hn:2000≤n) (hb:b.length≤70368744177664) (hp:0≤p∧p≤b.length) (hk:∀ (p' c' d':Int) (g:Bool) (k e:Int),0≤p'∧p'≤b.length→Q (kr p' c' d' g k e)):Q (F.za.C1_rec_GetDec n kr b p c d):=by
 unfold F.za.C1_rec_GetDec
 refine zc6 hn hb hp fun x p1 c1 d1 hx h1 => ?_
 have:∃ v,F.zas n (shrA .u64 x 1)=some v ∧ -9223372036854775808≤v∧v≤9223372036854775807:=by
  unfold F.zas
  exact bq (Q:=fun o=>∃ v,o=some v ∧ -9223372036854775808≤v∧v≤9223372036854775807) (fun _=>⟨_,rfl,wlo _⟩) fun _=>⟨_,rfl,wlo _⟩
 obtain ⟨v,hv,hr⟩:=this
 rw [hv,za]
 refine zc6 hn hb h1 fun y p2 c2 d2 hy h2 => ?_
 obtain ⟨k,rfl⟩:=Int.eq_ofNat_of_zero_le hy.1
 rw [zsd n (by omega) _ k (by show k<18446744073709551616; omega) v hr,za]
 have z:∀ {c' d':Int} {a:Option X} {b':Option X},Q a→Q b'→Q (bif !((c'==(0:Int))&&(d'==(0:Int))) then a else b'):=fun ha hb=>bq (fun _=>ha) fun _=>hb
 exact bq (fun _=>fail2 (fun _=>z (hk _ _ _ _ _ _ h2) (hk _ _ _ _ _ _ h2)) (fun _=>z (hk _ _ _ _ _ _ h2) (hk _ _ _ _ _ _ h2)) fun _=>z (hk _ _ _ _ _ _ h2) (hk _ _ _ _ _ _ h2)) fun _=>z (hk _ _ _ _ _ _ h2) (hk _ _ _ _ _ _ h2)
theorem zvw {kn:Int→Int→Int→Int→List (Bool×Int×Int)→Nat→Option X} {c0 p c d k r tm:Int} {nm:List UInt8} {l:List (Bool×Int×Int)} {tg:List (List UInt8×List UInt8)} {t:Nat} (hn:2000≤n) (hb:b.length≤70368744177664) (hp:0≤p∧p≤b.length) (hl:l.length<64) (ht:t=l.length)
 (hk:∀ (p' c' d':Int) (l':List (Bool×Int×Int)) (t':Nat),0≤p'∧p'≤b.length→l'.length=l.length+1→t'=l'.length→Q (kn (IntKind.wrap .i64 (c0 - 1)) p' c' d' l' t')):Q (F.za.C9_rec_Get n kn c0 b p c d nm k l r tg tm t):=by
 unfold F.za.C9_rec_Get
 refine zvv hn hb hp fun p' c' d' g k e h => ?_
 rw [zbg,decide_eq_true (show (l.length+1)*24≤2 ^ 46 by omega),ht,nbeq.2 (rfl:l.length=l.length)]
 exact hk _ _ _ _ _ h (by simp) rfl
theorem zp9 {k0:Int→Int→Int→List (Bool×Int×Int)→Nat→Option X} {k r tm:Int} {nm:List UInt8} {tg:List (List UInt8×List UInt8)} (hn:2000≤n) (hb:b.length≤70368744177664)
 (hk:∀ (p' c' d':Int) (l':List (Bool×Int×Int)) (t':Nat),0≤p'∧p'≤b.length→l'.length≤64→t'=l'.length→Q (k0 p' c' d' l' t')) :
 ∀ (m j:Nat) (v p c d:Int) (l:List (Bool×Int×Int)) (t:Nat),j<m→l.length+j≤64→(c=0∧d=0→v≤j)→0≤p∧p≤b.length→t=l.length→Q (F.za.L7_rec_Get n k0 m v b p c d nm k l r tg tm t)
 | 0,j,v,p,c,d,l,t,h1,h2,h3,hp,ht=>by omega
 | m+1,j,v,p,c,d,l,t,h1,h2,h3,hp,ht=>by
  show Q (F.za.L7_rec_Get.step n (F.za.L7_rec_Get n k0 m) k0 v b p c d nm k l r tg tm t)
  unfold F.za.L7_rec_Get.step
  refine bq (fun hv=>bq (fun hc => ?_) fun _=>hk _ _ _ _ _ hp (by omega) ht) fun _=>hk _ _ _ _ _ hp (by omega) ht
  rw [decide_eq_true_iff] at hv
  have:=h3 (by simpa using hc)
  refine zvw hn hb hp (by omega) ht fun p' c' d' l' t' h hl ht'=>zp9 hn hb hk m (j - 1) _ p' c' d' l' t' (by omega) (by omega) (fun _ => ?_) h ht'
  rw [ze (by omega)]
  omega
theorem zvm {kn:Int→Int→Option X} {e k c d:Int} {l:List (List UInt8×List UInt8)} {s t:List UInt8} (hk:∀ c' d',Q (kn c' d')) (he:k=l.length) (hl:l.length≤64):Q (F.za.C21_rec_Get n kn e k c d l s t):=by
 unfold F.za.C21_rec_Get
 have z:∀ g c d,Q (F.za.C22_rec_Get n (fun a b=>kn a b) e g c d):=fun g c d=>by
  unfold F.za.C22_rec_Get
  exact bq (fun _=>fail2 (fun _=>hk _ _) (fun _=>hk _ _) fun _=>hk _ _) fun _=>hk _ _
 refine bq (fun h => ?_) fun _=>z _ _ _
 rw [decide_eq_true_iff] at h
 subst he
 rw [ze (by omega),show (l.length:Int) - 1=((l.length - 1:Nat):Int) from by omega,za7 (by omega),za]
 have:∃ v,F.za2 n (l[l.length - 1].1,l[l.length - 1].2,()) (s,t,())=some v:=by
  unfold F.za2
  exact bq (Q:=fun o=>∃ v,o=some v) (fun _=>⟨_,rfl⟩) fun _=>⟨_,rfl⟩
 obtain ⟨v,hv⟩:=this
 rw [hv,za]
 exact z _ _ _
abbrev TK (X:Type):=Int→Int→Int→List (List UInt8×Int)→List (List UInt8)→List (List UInt8×List UInt8)→Nat→Nat→Option X
theorem zvx {kn:TK X} {e p c d:Int} {mp:List (List UInt8×Int)} {ws:List (List UInt8)} {l:List (List UInt8×List UInt8)} {t u:Nat} (hn:2000≤n) (hb:b.length≤70368744177664) (hp:0≤p∧p≤b.length) (hd:DI ws t) (hl:l.length<32) (hu:u=l.length)
 (hk:∀ (p' c' d':Int) mp' ws' l' t' u',0≤p'∧p'≤b.length→DI ws' t'→l'.length=l.length+1→u'=l'.length→Q (kn p' c' d' mp' ws' l' t' u')):Q (F.za.C18_rec_Get n kn e b p c d mp ws l t u):=by
 unfold F.za.C18_rec_Get
 refine zkz hn hb hp hd fun s p1 c1 d1 mp1 ws1 t1 h1 hd1 => ?_
 unfold F.za.C19_rec_Get
 refine zkz hn hb h1 hd1 fun s2 p2 c2 d2 mp2 ws2 t2 h2 hd2 => ?_
 unfold F.za.C20_rec_Get
 refine zvm (fun c3 d3 => ?_) rfl (by omega)
 unfold F.za.C23_rec_Get
 rw [decide_eq_true (show (l.length+1)*32≤2 ^ 46 by omega),hu,nbeq.2 (rfl:l.length=l.length)]
 exact hk _ _ _ _ _ _ _ _ h2 hd2 (by simp) rfl
theorem zqa {k2:TK X} (hn:2000≤n) (hb:b.length≤70368744177664)
 (hk:∀ (p' c' d':Int) mp' ws' l' t' u',0≤p'∧p'≤b.length→DI ws' t'→l'.length≤32→u'=l'.length→Q (k2 p' c' d' mp' ws' l' t' u')) :
 ∀ (m j:Nat) (v p c d:Int) (mp:List (List UInt8×Int)) (ws:List (List UInt8)) (l:List (List UInt8×List UInt8)) (t u:Nat),j<m→l.length+j≤32→(c=0∧d=0→v≤j)→0≤p∧p≤b.length→DI ws t→u=l.length→Q (F.za.L15_rec_Get n k2 m v b p c d mp ws l t u)
 | 0,j,v,p,c,d,mp,ws,l,t,u,h1,h2,h3,hp,hd,hu=>by omega
 | m+1,j,v,p,c,d,mp,ws,l,t,u,h1,h2,h3,hp,hd,hu=>by
  show Q (F.za.L15_rec_Get.step n (F.za.L15_rec_Get n k2 m) k2 v b p c d mp ws l t u)
  unfold F.za.L15_rec_Get.step
  refine bq (fun hv=>bq (fun hc => ?_) fun _=>hk _ _ _ _ _ _ _ _ hp hd (by omega) hu) fun _=>hk _ _ _ _ _ _ _ _ hp hd (by omega) hu
  rw [decide_eq_true_iff] at hv
  have:=h3 (by simpa using hc)
  unfold F.za.C17_rec_Get
  refine zvx hn hb hp hd (by omega) hu fun p' c' d' mp' ws' l' t' u' h hd' hl hu'=>zqa hn hb hk m (j - 1) _ p' c' d' mp' ws' l' t' u' (by omega) (by omega) (fun _ => ?_) h hd' hu'
  rw [ze (by omega)]
  omega
abbrev GK (X:Type):=Int→Int→Int→List (List UInt8×Int)→List (List UInt8)→List UInt8→Int→List (Bool×Int×Int)→Int→List (List UInt8×List UInt8)→Int→Nat→Nat→Nat→Option X
theorem zvy {kr:GK X} {p c d:Int} {mp:List (List UInt8×Int)} {ws:List (List UInt8)} {t:Nat} (hn:2000≤n) (hb:b.length≤70368744177664) (hp:0≤p∧p≤b.length) (hd:DI ws t)
 (hk:∀ (p' c' d':Int) mp' ws' nm k vs r tg tm t' u1 u2,0≤p'∧p'≤b.length→DI ws' t'→vs.length≤64→tg.length≤32→Q (kr p' c' d' mp' ws' nm k vs r tg tm t' u1 u2)):Q (F.za.C1_rec_Get n kr b p c d mp ws t):=by
 unfold F.za.C1_rec_Get
 refine bq (fun _=>hk _ _ _ _ _ _ _ _ _ _ _ _ _ _ hp hd (by simp) (by simp)) fun _ => ?_
 unfold F.za.C3_rec_Get
 refine zkz hn hb hp hd fun s p1 c1 d1 mp1 ws1 t1 h1 hd1 => ?_
 unfold F.za.C5_rec_Get
 refine zvl hb h1 fun k p2 c2 d2 h2 => ?_
 unfold F.za.C6_rec_Get
 refine zdw hn hb h2 (by decide) (by decide) fun x p3 c3 d3 hx h3 => ?_
 unfold F.za.C7_rec_Get
 refine zp9 hn hb (fun p4 c4 d4 vs u4 h4 hv hu4 => ?_) n 64 x p3 c3 d3 [] 0 (by omega) (by simp) (fun h=>(hx h).2) h3 rfl
 unfold F.za.C10_rec_Get
 have z:∀ lo:Int,0≤lo∧lo≤1000000→Q (F.za.C13_rec_Get n (fun a b c d e f g h i j k l m o=>kr a b c d e f g h i j k l m o) lo b p4 c4 d4 mp1 ws1 s k vs [] t1 u4 0):=by
  intro lo hlo
  unfold F.za.C13_rec_Get
  refine zdw hn hb h4 (by decide) (by omega) fun y p5 c5 d5 _ h5 => ?_
  unfold F.za.C14_rec_Get
  refine zdw hn hb h5 (by decide) (by decide) fun q p6 c6 d6 hq h6 => ?_
  unfold F.za.C15_rec_Get
  refine zqa hn hb (fun p7 c7 d7 mp7 ws7 tg t7 u7 h7 hd7 htg hu7 => ?_) n 32 q p6 c6 d6 mp1 ws1 [] t1 0 (by omega) (by simp) (fun h=>(hq h).2) h6 hd1 rfl
  unfold F.za.C24_rec_Get
  refine zdw hn hb h7 (by decide) (by decide) fun w p8 c8 d8 _ h8 => ?_
  unfold F.za.C25_rec_Get
  exact bq (fun _=>hk _ _ _ _ _ _ _ _ _ _ _ _ _ _ h8 hd7 (by simp) (by simp)) fun _=>hk _ _ _ _ _ _ _ _ _ _ _ _ _ _ h8 hd7 hv htg
 exact bq (fun _=>z _ (by decide)) fun _=>z _ (by decide)
abbrev MX:=List UInt8×Int×List (Bool×Int×Int)×Int×List (List UInt8×List UInt8)×Int
def MB (m:MX):Prop:=m.2.2.1.length≤64∧m.2.2.2.2.1.length≤32
theorem zqb {k0 k1:List (List UInt8×Int×List (Bool×Int×Int)×Int×List (List UInt8×List UInt8)×Int)→Int→Int→Int→List (List UInt8×Int)→List (List UInt8)→Nat→Nat→Option X} {v:Int} (hn:2000≤n) (hb:b.length≤70368744177664) (hv:v≤1000)
 (h0:∀ l (p c d:Int) mp ws t u,l.length≤1000→(∀ m∈l,MB m)→Q (k0 l p c d mp ws t u)) (h1:∀ l (p c d:Int) mp ws t u,l.length≤1000→(∀ m∈l,MB m)→Q (k1 l p c d mp ws t u)) :
 ∀ (m:Nat) (p c d:Int) l (mp:List (List UInt8×Int)) (ws:List (List UInt8)) (t u:Nat),1001≤m+l.length→l.length≤1000→(∀ m∈l,MB m)→0≤p∧p≤b.length→DI ws u→t=l.length→Q (F.za.L6_frame_Payload_1 n k0 k1 m v (l.length:Int) l b p c d true mp ws t u)
 | 0,p,c,d,l,mp,ws,t,u,hm,hl,hM,hp,hd,ht=>by omega
 | m + 1,p,c,d,l,mp,ws,t,u,hm,hl,hM,hp,hd,ht=>by
  show Q (F.za.L6_frame_Payload_1.step n (F.za.L6_frame_Payload_1 n k0 k1 m) k0 k1 v (l.length:Int) l b p c d true mp ws t u)
  unfold F.za.L6_frame_Payload_1.step
  refine bq (fun h => ?_) fun _=>h0 _ _ _ _ _ _ _ _ hl hM
  rw [decide_eq_true_iff] at h
  refine zvy hn hb hp hd fun p' c' d' mp' ws' nm k vs r tg tm t' u1 u2 h' hd' hvs htg => ?_
  have hM':∀ x∈l++[(nm,k,vs,r,tg,tm)],MB x:=fun x hx=>by
   rcases List.mem_append.1 hx with h | h
   · exact hM x h
   · rw [List.mem_singleton.1 h]; exact ⟨hvs,htg⟩
  rw [zbg,decide_eq_true (show (l.length+1)*88≤2 ^ 46 by omega),ht,nbeq.2 (rfl:l.length=l.length),IntWalk.u64_in _ (by omega)]
  show Q (bif true && !((c'==(0:Int))&&(d'==(0:Int))) then _ else _)
  refine bq (fun _=>h1 _ _ _ _ _ _ _ _ (by simp; omega) hM') fun _ => ?_
  have:=zqb hn hb hv h0 h1 m p' c' d' (l++[(nm,k,vs,r,tg,tm)]) mp' ws' _ _ (by simp; omega) (by simp; omega) hM' h' hd' rfl
  rw [show (l.length:Int)+1=((l++[(nm,k,vs,r,tg,tm)]).length:Int) by simp]
  exact this
def PG (o:Option (List MX×(Int×Int×Unit)×Unit)):Prop:=∃ (l:List MX) (c d:Int),o=some (l,(c,d,()),())∧l.length≤1000∧∀ m∈l,MB m
theorem zqc (hn:2000≤n) (hb:b.length≤70368744177664):PG (F.za n b):=by
 unfold F.za
 rw [show Nat.ble b.length 70368744177664=true from nble.2 hb]
 refine zc6 (Q:=PG) hn hb (by omega) fun x p c d hx hp => ?_
 have z:∀ (l:List MX) (c d:Int),l.length≤1000→(∀ m∈l,MB m)→PG (bif !((c==(0:Int))&&(d==(0:Int))) then some ([],(c,d,()),()) else some (l,((0:Int),(0:Int),()),())):=fun l c d h1 h2 =>
  bq (Q:=PG) (fun _=>⟨_,_,_,rfl,by simp,by simp⟩) fun _=>⟨_,_,_,rfl,h1,h2⟩
 have main:∀ c d:Int,(c=0∧d=0→x≤1000)→PG (F.za.C3_frame_Payload_1 n (fun l _ c d _=>bif !((c==(0:Int))&&(d==(0:Int))) then some ([],(c,d,()),()) else some (l,((0:Int),(0:Int),()),()))
  (fun l _ c d _=>bif !((c==(0:Int))&&(d==(0:Int))) then some ([],(c,d,()),()) else some (l,((0:Int),(0:Int),()),())) x [] b p c d true 0):=by
  intro c d hc
  unfold F.za.C3_frame_Payload_1
  refine bq (Q:=PG) (fun _=>z _ _ _ (by simp) (by simp)) fun h => ?_
  have hx:x≤1000:=hc (by simpa using h)
  refine zqb (Q:=PG) hn hb hx (fun l p c d mp ws t u hl hM => ?_) (fun l p c d mp ws t u hl hM=>z _ _ _ hl hM) n p c d [] [] [] 0 0 (by simp; omega) (by simp) (by simp) hp DI.nil rfl
  exact bq (Q:=PG) (fun _=>fail2 (Q:=PG) (fun _=>z _ _ _ hl hM) (fun _=>z _ _ _ hl hM) fun _=>z _ _ _ hl hM) fun _=>z _ _ _ hl hM
 refine bq (Q:=PG) (fun _=>fail2 (Q:=PG) (fun _=>main _ _ (fun h=>by omega)) (fun h=>by cases h) fun h=>main _ _ fun hc=>absurd hc h) fun h=>main _ _ fun _ => ?_
 rw [decide_eq_false_iff_not] at h
 omega
end
end Go.AM
set_option linter.unusedVariables false
set_option linter.unusedSimpArgs false
namespace Go.AM
def curF (cs:List UInt8):List UInt8:=lstS (splitL 10 cs)
def lnF (mo:Int) (fr:Nat) (cs:List UInt8):List LnL:=lnS mo (splitL 10 cs) fr
def opn (mo:Int) (cur:List UInt8):List UInt8:=if (cur.length:Int)>mo then [] else cur
def lnOf (mo:Int) (fr:Nat) (p:List UInt8):LnL:=((fr:Int),((fr+p.length+1:Nat):Int),opn mo p,decide ((p.length:Int)>mo))
theorem ze8 {cs:List UInt8} (h:10∉cs):curF cs=cs:=by unfold curF; rw [zbp,if_neg h]; rfl
theorem ze3 (mo:Int) (fr:Nat) {cs:List UInt8} (h:10∉cs):lnF mo fr cs=[]:=by unfold lnF; rw [zbp,if_neg h]; rfl
theorem zdz {cs:List UInt8} (h:10∈cs):curF cs=curF (restN 10 cs):=by unfold curF; rw [zbp,if_pos h,zp4 (ziz _ _)]
theorem zc7 (mo:Int) (fr:Nat) {cs:List UInt8} (h:10∈cs):lnF mo fr cs=lnOf mo fr (seg 10 cs)::lnF mo (fr+(seg 10 cs).length+1) (restN 10 cs):=by
 unfold lnF; rw [zbp,if_pos h,zsz mo (ziz _ _)]; rfl
theorem zhu {cur s:List UInt8} (hc:10∉cur):seg 10 (cur++s)=cur++seg 10 s:=by
 unfold seg
 induction cur with
 | nil=>rfl
 | cons x cur ih =>
  simp only [List.mem_cons,not_or] at hc
  have:(x != 10)=true:=by simpa using fun e=>hc.1 e.symm
  simp only [List.cons_append,List.takeWhile_cons,this,if_true,ih hc.2]
theorem zs0 {cur s:List UInt8} (hc:10∉cur) (hs:10∈s):restN 10 (cur++s)=restN 10 s:=by
 unfold restN
 rw [if_pos (by simp [hs]),if_pos hs,zhu hc,List.length_append,Nat.add_assoc,← List.drop_drop,List.drop_left]
theorem ze4:∀ (m:Nat) (a:List UInt8),a.length<m→(curF a).length≤a.length∧10∉curF a
 | 0,a,h=>by omega
 | m + 1,a,h=>by
  by_cases ha:10∈a
  · have:=zb1 ha
    obtain ⟨h1,h2⟩:=ze4 m (restN 10 a) (by omega)
    rw [zdz ha]
    exact ⟨by omega,h2⟩
  · rw [ze8 ha]; exact ⟨Nat.le_refl _,ha⟩
theorem zhv (a:List UInt8):(curF a).length≤a.length:=(ze4 _ a (Nat.lt_succ_self _)).1
theorem zqd (a:List UInt8):10∉curF a:=(ze4 _ a (Nat.lt_succ_self _)).2
theorem zu1 {a b:List UInt8} (h:10∈a):seg 10 (a++b)=seg 10 a∧restN 10 (a++b)=restN 10 a++b:=by
 have e:seg 10 (a++b)=seg 10 a:=by
  have hs:=zbl h
  have hf:=zds 10 a
  generalize seg 10 a=p at hs hf
  rw [hs,List.append_assoc,zhu hf]
  simp [seg]
 refine ⟨e,?_⟩
 have:=za1 h
 unfold restN
 rw [if_pos (by simp [h]),if_pos h,e,List.drop_append_of_le_length (by omega)]
theorem zmo (mo:Int):∀ (m:Nat) (a b:List UInt8) (fr:Nat),a.length<m →
 lnF mo fr (a++b)=lnF mo fr a++lnF mo (fr+a.length - (curF a).length) (curF a++b)∧curF (a++b)=curF (curF a++b)
 | 0,a,b,fr,h=>by omega
 | m + 1,a,b,fr,h=>by
  by_cases ha:10∈a
  · have hr:=zb1 ha
    obtain ⟨e1,e2⟩:=zu1 (b:=b) ha
    obtain ⟨i1,i2⟩:=zmo mo m (restN 10 a) b (fr+(seg 10 a).length+1) (by omega)
    have hab:10∈a++b:=by simp [ha]
    rw [zc7 mo fr hab,zdz hab,e1,e2,zc7 mo fr ha,zdz ha,i1,i2]
    refine ⟨?_,rfl⟩
    rw [List.cons_append]
    congr 3
    omega
  · rw [ze3 mo fr ha,ze8 ha]
    refine ⟨?_,rfl⟩
    rw [List.nil_append]
    congr 1
    omega
theorem ze9 (mo:Int):∀ (m:Nat) (a:List UInt8) (fr:Nat),a.length<m→(lnF mo fr a).length≤a.length
 | 0,a,fr,h=>by omega
 | m + 1,a,fr,h=>by
  by_cases ha:10∈a
  · have hr:=zb1 ha
    have:=ze9 mo m (restN 10 a) (fr+(seg 10 a).length+1) (by omega)
    rw [zc7 mo fr ha,List.length_cons]
    omega
  · rw [ze3 mo fr ha]; simp
def LnOK (x:LnL):Prop:=x.2.2.1.length≤100000∧0≤x.1∧x.1≤1000000
theorem zvn (mo:Int) (p:List UInt8):(opn mo p).length≤p.length:=by unfold opn; split<;>simp
theorem zk0 (mo:Int):∀ (m:Nat) (a:List UInt8) (fr:Nat),a.length<m→fr+a.length≤100000→∀ x∈lnF mo fr a,LnOK x
 | 0,a,fr,h,_,_,_=>by omega
 | m + 1,a,fr,h,hb,x,hx=>by
  by_cases ha:10∈a
  · have hr:=zb1 ha
    rw [zc7 mo fr ha] at hx
    rcases List.mem_cons.1 hx with rfl | hx
    · have:=zvn mo (seg 10 a)
      exact ⟨by show (opn mo _).length≤_; omega,by show (0:Int)≤(fr:Int); omega,by show (fr:Int)≤_; omega⟩
    · exact zk0 mo m (restN 10 a) _ (by omega) (by omega) x hx
  · rw [ze3 mo fr ha] at hx; cases hx
noncomputable def lnStep {X:Type} (n:Nat) (rec:Int→Int→Int→List UInt8→List LnL→List UInt8→Nat→Nat→Option X) (k0:Int→Int→List UInt8→List LnL→List UInt8→Nat→Nat→Option X) (v0 v1 v2:Int) (v3:List UInt8) (v4:List LnL) (v5:List UInt8) (v6 v7:Nat):Option X:=
 bif decide ((v5.length:Int)>(0:Int)) then
  (F.zap n v5 ([UInt8.ofNat ((10:Int)).toNat])).bind fun y =>
   bif decide (IntKind.wrap .i64 ((IntKind.wrap .i64 (v1+(y.1.length:Int))) - v2)>v0) then
    bif y.2.2.1 then
     bif decide ((v4.length+1)*40≤2 ^ 46)&&decide (0<40∧40≤2 ^ 20) then
      bif Nat.beq v7 v4.length then
       rec v0 (IntKind.wrap .i64 ((IntKind.wrap .i64 (v1+(y.1.length:Int)))+(1:Int))) (IntKind.wrap .i64 ((IntKind.wrap .i64 (v1+(y.1.length:Int)))+(1:Int))) [] (v4++([(v2,IntKind.wrap .i64 ((IntKind.wrap .i64 (v1+(y.1.length:Int)))+(1:Int)),[],decide (IntKind.wrap .i64 ((IntKind.wrap .i64 ((IntKind.wrap .i64 ((IntKind.wrap .i64 (v1+(y.1.length:Int)))+(1:Int))) - (1:Int))) - v2)>v0))])) y.2.1 0 ((v4++([(v2,IntKind.wrap .i64 ((IntKind.wrap .i64 (v1+(y.1.length:Int)))+(1:Int)),[],decide (IntKind.wrap .i64 ((IntKind.wrap .i64 ((IntKind.wrap .i64 ((IntKind.wrap .i64 (v1+(y.1.length:Int)))+(1:Int))) - (1:Int))) - v2)>v0))])).length)
      else none
     else none
    else
     rec v0 (IntKind.wrap .i64 (v1+(y.1.length:Int))) v2 [] v4 y.2.1 0 v7
   else
   bif (v3.length:Int)==(v3.length:Int) then
    (sub v3 (0:Int) (v3.length:Int)).bind fun x =>
     bif decide ((x.length+y.1.length)*1≤2 ^ 46)&&decide (0<1∧1≤2 ^ 20) then
      bif y.2.2.1 then
       bif !(decide (IntKind.wrap .i64 ((IntKind.wrap .i64 ((IntKind.wrap .i64 ((IntKind.wrap .i64 (v1+(y.1.length:Int)))+(1:Int))) - (1:Int))) - v2)>v0)) then
        bif decide ((v4.length+1)*40≤2 ^ 46)&&decide (0<40∧40≤2 ^ 20) then
         bif Nat.beq v7 v4.length then
          rec v0 (IntKind.wrap .i64 ((IntKind.wrap .i64 (v1+(y.1.length:Int)))+(1:Int))) (IntKind.wrap .i64 ((IntKind.wrap .i64 (v1+(y.1.length:Int)))+(1:Int))) [] (v4++([(v2,IntKind.wrap .i64 ((IntKind.wrap .i64 (v1+(y.1.length:Int)))+(1:Int)),x++y.1,decide (IntKind.wrap .i64 ((IntKind.wrap .i64 ((IntKind.wrap .i64 ((IntKind.wrap .i64 (v1+(y.1.length:Int)))+(1:Int))) - (1:Int))) - v2)>v0))])) y.2.1 0 ((v4++([(v2,IntKind.wrap .i64 ((IntKind.wrap .i64 (v1+(y.1.length:Int)))+(1:Int)),x++y.1,decide (IntKind.wrap .i64 ((IntKind.wrap .i64 ((IntKind.wrap .i64 ((IntKind.wrap .i64 (v1+(y.1.length:Int)))+(1:Int))) - (1:Int))) - v2)>v0))])).length)
         else none
        else none
       else
        bif decide ((v4.length+1)*40≤2 ^ 46)&&decide (0<40∧40≤2 ^ 20) then
         bif Nat.beq v7 v4.length then
          rec v0 (IntKind.wrap .i64 ((IntKind.wrap .i64 (v1+(y.1.length:Int)))+(1:Int))) (IntKind.wrap .i64 ((IntKind.wrap .i64 (v1+(y.1.length:Int)))+(1:Int))) [] (v4++([(v2,IntKind.wrap .i64 ((IntKind.wrap .i64 (v1+(y.1.length:Int)))+(1:Int)),[],decide (IntKind.wrap .i64 ((IntKind.wrap .i64 ((IntKind.wrap .i64 ((IntKind.wrap .i64 (v1+(y.1.length:Int)))+(1:Int))) - (1:Int))) - v2)>v0))])) y.2.1 0 ((v4++([(v2,IntKind.wrap .i64 ((IntKind.wrap .i64 (v1+(y.1.length:Int)))+(1:Int)),[],decide (IntKind.wrap .i64 ((IntKind.wrap .i64 ((IntKind.wrap .i64 ((IntKind.wrap .i64 (v1+(y.1.length:Int)))+(1:Int))) - (1:Int))) - v2)>v0))])).length)
         else none
        else none
      else
       rec v0 (IntKind.wrap .i64 (v1+(y.1.length:Int))) v2 (x++y.1) v4 y.2.1 ((x++y.1).length) v7
     else none
   else none
 else
  k0 v1 v2 v3 v4 v5 v6 v7
abbrev LnK (X:Type):=Int→Int→Int→List UInt8→List LnL→List UInt8→Nat→Nat→Option X
theorem zk1 {X:Type} {n:Nat} (L:Nat→LnK X) {k0:Int→Int→List UInt8→List LnL→List UInt8→Nat→Nat→Option X} (mo:Int) (hmo:1≤mo) (hL:∀ m a b c d e f g h,L (m+1) a b c d e f g h=lnStep n (L m) k0 a b c d e f g h) :
 ∀ (m:Nat) (s cur:List UInt8) (fr:Nat) (out:List LnL) (t:Nat),s.length<m→fr+cur.length+s.length≤100000→10∉cur→out.length≤fr →
 ∃ t',L m mo ((fr+cur.length:Nat):Int) (fr:Int) (opn mo cur) out s t out.length =
  k0 ((fr+(cur++s).length:Nat):Int) ((fr+(cur++s).length - (curF (cur++s)).length:Nat):Int) (opn mo (curF (cur++s))) (out++lnF mo fr (cur++s)) [] t' (out++lnF mo fr (cur++s)).length
 | 0,s,cur,fr,out,t,h1,h2,h3,h4=>by omega
 | m + 1,s,cur,fr,out,t,h1,h2,h3,h4=>by
  rw [hL]
  unfold lnStep
  by_cases hs:s=[]
  · subst hs
    refine ⟨t,?_⟩
    rw [show decide ((([]:List UInt8).length:Int)>(0:Int))=false from rfl,cond_false,List.append_nil,ze8 h3,ze3 mo fr h3,List.append_nil,show fr+cur.length - cur.length=fr from by omega]
  have hlen:0<s.length:=List.length_pos_iff.2 hs
  have hsl:=zak 10 s
  have e1:IntKind.wrap .i64 (((fr+cur.length:Nat):Int)+((seg 10 s).length:Int))=((fr+(cur++seg 10 s).length:Nat):Int):=by rw [ze (by omega),List.length_append]; omega
  have hcl:(cur++seg 10 s).length=cur.length+(seg 10 s).length:=List.length_append
  have e2:IntKind.wrap .i64 (((fr+(cur++seg 10 s).length:Nat):Int)+1)=((fr+(cur++seg 10 s).length+1:Nat):Int):=zi (by omega)
  have e3:IntKind.wrap .i64 (((fr+(cur++seg 10 s).length+1:Nat):Int) - 1)=((fr+(cur++seg 10 s).length:Nat):Int):=by rw [ze (by omega)]; omega
  have e4:IntKind.wrap .i64 (((fr+(cur++seg 10 s).length:Nat):Int) - (fr:Int))=((cur++seg 10 s).length:Int):=by rw [ze (by omega)]; omega
  have hc:F.zap n s [UInt8.ofNat ((10:Int)).toNat]=some (seg 10 s,restN 10 s,decide (10∈s),()):=zux n hs (by omega)
  rw [zf (by omega),hc,za]
  dsimp only
  rw [e1,e2,e3,e4]
  have hso:¬ ((cur++seg 10 s).length:Int)>mo→opn mo cur=cur∧opn mo cur++seg 10 s=opn mo (cur++seg 10 s):=fun h=>by
   have:opn mo cur=cur:=if_neg (by omega)
   rw [this]
   exact ⟨rfl,(if_neg h).symm⟩
  have hsub:∀ l:List UInt8,sub l (0:Int) (l.length:Int)=some l:=fun l=>by
   have:=zp l 0 l.length (by omega) (by omega)
   simpa using this
  by_cases hin:10∈s
  · have hr:=zb1 hin
    have hcs:10∈cur++s:=by simp [hin]
    have es:=zhu (s:=s) h3
    have er:=zs0 h3 hin
    have next:∀ (t2:Nat) (x:LnL),x=lnOf mo fr (cur++seg 10 s) →
     ∃ t',L m mo ((fr+(cur++seg 10 s).length+1:Nat):Int) ((fr+(cur++seg 10 s).length+1:Nat):Int) [] (out++[x]) (restN 10 s) t2 (out++[x]).length =
      k0 ((fr+(cur++s).length:Nat):Int) ((fr+(cur++s).length - (curF (cur++s)).length:Nat):Int) (opn mo (curF (cur++s))) (out++lnF mo fr (cur++s)) [] t' (out++lnF mo fr (cur++s)).length:=by
     rintro t2 x rfl
     obtain ⟨t',h⟩:=zk1 L mo hmo hL m (restN 10 s) [] (fr+(cur++seg 10 s).length+1) (out++[lnOf mo fr (cur++seg 10 s)]) t2 (by omega) (by simp at hcl ⊢; omega) (by simp) (by simp; omega)
     refine ⟨t',?_⟩
     rw [List.nil_append] at h
     have h0:opn mo []=[]:=by unfold opn; split<;>rfl
     rw [h0] at h
     refine h.trans ?_
     rw [zc7 mo fr hcs,zdz hcs,es,er]
     have:fr+(cur++seg 10 s).length+1+(restN 10 s).length=fr+(cur++s).length:=by rw [hcl,List.length_append]; omega
     rw [this]
     simp only [List.append_assoc,List.singleton_append]
    rw [decide_eq_true hin]
    by_cases hlong:((cur++seg 10 s).length:Int)>mo
    · have hx:lnOf mo fr (cur++seg 10 s)=((fr:Int),((fr+(cur++seg 10 s).length+1:Nat):Int),[],true):=by unfold lnOf opn; rw [if_pos hlong,decide_eq_true hlong]
      simp only [decide_eq_true hlong,cond_true]
      rw [growN (by omega),Nat.beq_refl,cond_true]
      exact next _ _ hx.symm
    · have hx:lnOf mo fr (cur++seg 10 s)=((fr:Int),((fr+(cur++seg 10 s).length+1:Nat):Int),cur++seg 10 s,false):=by unfold lnOf opn; rw [if_neg hlong,decide_eq_false hlong]
      obtain ⟨o1,o2⟩:=hso hlong
      simp only [decide_eq_false hlong,cond_true,Bool.not_false,cond_false,beq_self_eq_true,hsub,za,o1]
      rw [show (decide ((cur.length+(seg 10 s).length)*1≤2 ^ 46)&&decide (0<1∧1≤2 ^ 20))=true from by rw [decide_eq_true (by omega)]; rfl,cond_true,growN (by omega),Nat.beq_refl,cond_true]
      exact next _ _ hx.symm
  · have hseg:=za9 hin
    have hrest:restN 10 s=[]:=by unfold restN; rw [if_neg hin]
    have hcs:10∉cur++s:=by simp [hin,h3]
    obtain ⟨m,rfl⟩:∃ q,m=q+1:=⟨m - 1,by omega⟩
    have key:∀ t2,∃ t',L (m+1) mo ((fr+(cur++s).length:Nat):Int) (fr:Int) (opn mo (cur++s)) out [] t2 out.length =
     k0 ((fr+(cur++s).length:Nat):Int) ((fr+(cur++s).length - (curF (cur++s)).length:Nat):Int) (opn mo (curF (cur++s))) (out++lnF mo fr (cur++s)) [] t' (out++lnF mo fr (cur++s)).length:=fun t2=>by
     refine ⟨t2,?_⟩
     rw [hL]
     unfold lnStep
     rw [show decide ((([]:List UInt8).length:Int)>(0:Int))=false from rfl,cond_false,ze8 hcs,ze3 mo fr hcs,List.append_nil,show fr+(cur++s).length - (cur++s).length=fr from by omega]
    rw [decide_eq_false hin,hseg,hrest]
    rw [hseg] at hso
    by_cases hlong:((cur++s).length:Int)>mo
    · have:opn mo (cur++s)=[]:=if_pos hlong
      rw [this] at key
      simp only [decide_eq_true hlong,cond_true,cond_false]
      exact key _
    · obtain ⟨o1,o2⟩:=hso hlong
      have:opn mo (cur++s)=cur++s:=if_neg hlong
      rw [this] at key
      simp only [decide_eq_false hlong,cond_true,Bool.not_false,cond_false,beq_self_eq_true,hsub,za,o1]
      rw [show (decide ((cur.length+s.length)*1≤2 ^ 46)&&decide (0<1∧1≤2 ^ 20))=true from by rw [List.length_append] at hlong; rw [decide_eq_true (by omega)]; rfl,cond_true]
      exact key _
theorem zte {X:Type} {n:Nat} {k0:List EvL→Nat→Option X} (hn:200000≤n) (f:Int) (ls:List LnL) (hl:ls.length≤100000) (hx:∀ x∈ls,LnOK x) :
 ∀ (r:List LnL) (i m:Nat) (out:List EvL),ls.drop i=r→out.length≤i→r.length<m →
 F.zd.L2_sess_Sess_text_1 n k0 m ls (ls.length:Int) (i:Int) f out out.length=k0 (out++r.map (lineEv f)) (out++r.map (lineEv f)).length:=by
 intro r
 induction r with
 | nil =>
  intro i m out hi ho hm
  have:=zz hi
  obtain ⟨m,rfl⟩:∃ q,m=q+1:=⟨m - 1,by omega⟩
  rw [F.zd.L2_sess_Sess_text_1]
  unfold F.zd.L2_sess_Sess_text_1.step
  dsimp only
  rw [zg (by omega),List.map_nil,List.append_nil]
 | cons x r ih =>
  intro i m out hi ho hm
  obtain ⟨g1,g2,g3⟩:=zx hi
  obtain ⟨m,rfl⟩:∃ q,m=q+1:=⟨m - 1,by omega⟩
  obtain ⟨hx1,hx2,hx3⟩:=hx x (List.mem_of_getElem? g2)
  have next:∀ y:EvL,y=lineEv f x→F.zd.L2_sess_Sess_text_1 n k0 m ls (ls.length:Int) ((i+1:Nat):Int) f (out++[y]) (out++[y]).length=k0 (out++(x::r).map (lineEv f)) (out++(x::r).map (lineEv f)).length:=by
   rintro y rfl
   refine (ih (i+1) m _ g3 (by simp; omega) (by simp at hm; omega)).trans ?_
   simp only [List.append_assoc,List.singleton_append,List.map_cons]
  rw [F.zd.L2_sess_Sess_text_1]
  unfold F.zd.L2_sess_Sess_text_1.step
  dsimp only
  rw [zf (by omega),zt,g2,za,zi (by omega)]
  cases hL:x.2.2.2
  · rw [cond_false,zky n hn _ (by omega),za]
    rcases ze2 x.2.2.1 f with ⟨p1,p2,p3⟩ | ⟨c,a,hc,ha,hb,hp⟩
    · rw [p1]
      rw [show (!(((0:Int),(0:Int),()).1==0&&((0:Int),(0:Int),()).2.1==0))=false from rfl,cond_false,growE (by omega),Nat.beq_refl,cond_true]
      refine next _ ?_
      unfold lineEv
      rw [if_neg (by rw [hL]; decide),p1,if_pos rfl]
      rfl
    · rw [hp]
      have hb0:(c==0)=false:=beq_eq_false_iff_ne.2 hc
      rw [show (badM c a).2.1.1=c from rfl,show (badM c a).2.1.2.1=a from rfl,hb0,Bool.false_and,Bool.not_false,cond_true,growE (by omega),Nat.beq_refl,cond_true,ze (by omega)]
      refine next _ ?_
      unfold lineEv
      rw [if_neg (by rw [hL]; decide),hp,if_neg (by exact hc)]
  · rw [cond_true,growE (by omega),Nat.beq_refl,cond_true]
    refine next _ ?_
    unfold lineEv
    rw [if_pos hL]
def evT (f mo:Int) (p:List UInt8):List EvL:=(lnF mo 0 p).map (lineEv f)
def whT (f mo:Int) (p:List UInt8):List EvL:=evT f mo p++tailE (curF p) (p.length - (curF p).length)
theorem zmp (f mo:Int) (p c:List UInt8):evT f mo (p++c)=evT f mo p++(lnF mo (p.length - (curF p).length) (curF p++c)).map (lineEv f)∧curF (p++c)=curF (curF p++c):=by
 obtain ⟨h1,h2⟩:=zmo mo _ p c 0 (Nat.lt_succ_self _)
 refine ⟨?_,h2⟩
 unfold evT
 rw [h1,List.map_append,Nat.zero_add]
theorem zhw (f mo:Int) (p:List UInt8):(evT f mo p).length≤p.length:=by
 unfold evT; rw [List.length_map]; exact ze9 mo _ p 0 (Nat.lt_succ_self _)
end Go.AM
set_option linter.unusedVariables false
set_option linter.unusedSimpArgs false
namespace Go.AM
section
variable {X:Type} {Q:Option X→Prop} {n:Nat} {b:List UInt8}
theorem zmq {k0:Int→Option X} (hk:∀ v,Q (k0 v)):∀ (m k:Nat) (v:Int),k≤8→9≤m+k→Q (F.zai.L2 n k0 m v (k:Int))
 | 0,k,v,h1,h2=>by omega
 | m+1,k,v,h1,h2=>by
  show Q (F.zai.L2.step n (F.zai.L2 n k0 m) k0 v (k:Int))
  unfold F.zai.L2.step
  refine bq (fun h => ?_) fun _=>hk _
  rw [decide_eq_true_iff] at h
  rw [zi (by omega)]
  exact zmq hk m (k+1) _ (by omega) (by omega)
theorem zu2 (hn:2000≤n) (x:Int):∃ v,F.zai n x=some v:=zmq (Q:=fun o=>∃ v,o=some v) (fun v=>⟨_,rfl⟩) n 0 x (by omega) (by omega)
theorem zqe {k0:Int→Option X} (hn:2000≤n) (hb:b.length≤100000000) (hk:∀ v,Q (k0 v)):∀ (m k:Nat) (v:Int),k≤b.length→b.length<m+k→Q (F.zad.L3 n k0 m v b (b.length:Int) (k:Int))
 | 0,k,v,h1,h2=>by omega
 | m+1,k,v,h1,h2=>by
  show Q (F.zad.L3.step n (F.zad.L3 n k0 m) k0 v b (b.length:Int) (k:Int))
  unfold F.zad.L3.step
  refine bq (fun h => ?_) fun _=>hk _
  rw [decide_eq_true_iff] at h
  rw [za7 (by omega),za]
  obtain ⟨w,hw⟩:=zu2 hn (bitsA .xor .u32 v (IntKind.wrap .u32 ((b[k]'(by omega)).toNat)))
  rw [hw,za,zi (by omega)]
  exact zqe hn hb hk m (k+1) _ (by omega) (by omega)
theorem zs1 (hn:2000≤n) (hb:b.length≤100000000) (hm:b.length<n):∃ v,F.zax n b=some v:=by
 unfold F.zax
 refine bq (Q:=fun o=>∃ v,o=some v) (fun _=>⟨_,rfl⟩) fun h => ?_
 rw [ze (by omega),decide_eq_false_iff_not] at h
 rw [ze (by omega),show (b.length:Int) - 4=((b.length - 4:Nat):Int) from by omega,zp b (b.length - 4) b.length (by omega) (by omega),za,show (0:Int)=((0:Nat):Int) from rfl,zp b 0 (b.length - 4) (by omega) (by omega),za]
 unfold F.za5 F.zad F.za3 F.zaw
 obtain ⟨v,hv⟩:=zqe (Q:=fun o=>∃ v,o=some v) (b:=List.drop 0 (List.take (b.length - 4) b)) (n:=n) (k0:=fun e3_5=>some (bitsA .xor .u32 e3_5 (4294967295:Int))) hn (by simp; omega) (fun v=>⟨_,rfl⟩) n 0 (bitsA .xor .u32 0 (4294967295:Int)) (by omega) (by simp; omega)
 have e:((0:Nat):Int)=0:=rfl
 rw [e] at hv ⊢
 rw [hv]
 simp only [za]
 exact bq (Q:=fun o=>∃ v,o=some v) (fun _=>⟨_,rfl⟩) fun _=>⟨_,rfl⟩
theorem or64 {x y:Nat} (hx:x<2097152) (hy:y<2097152):∃ z:Nat,bitsA .or .i64 (x:Int) (y:Int)=(z:Int)∧z<2097152:=by
 refine ⟨x|||y,?_,Nat.or_lt_two_pow (n:=21) hx hy⟩
 have hz:x|||y<2097152:=Nat.or_lt_two_pow (n:=21) hx hy
 show IntKind.wrap .i64 (((BitVec.ofInt 64 (x:Int)|||BitVec.ofInt 64 (y:Int)).toNat:Nat):Int)=_
 rw [BitVec.toNat_or,BitVec.toNat_ofInt,BitVec.toNat_ofInt,show ((x:Int) % ((2 ^ 64:Nat):Int)).toNat=x from by omega,show ((y:Int) % ((2 ^ 64:Nat):Int)).toNat=y from by omega,ze (by omega)]
def HP (b:List UInt8) (a l:Int) (f g:Int):Prop:=(a=0∧(f=0→g=0∧b.length≤5))∨(4≤a∧a≤6∧a≤b.length∧0≤l∧l≤1048576∧f=0∧g=0)
theorem zqf {k3:Int→Int→Option X} {kr:Int→Int→Int→Int→Option X} (h3:b.length≤5→∀ f g,Q (k3 f g)) (hr:∀ a l f g,HP b a l f g→Q (kr a l f g)) {f0 g0:Int} :
 ∀ (m k v:Nat),k≤2→3≤m+k→v<2097152→Q (F.zj.L10 n k3 kr m b (v:Int) ((k+3:Nat):Int) f0 g0)
 | 0,k,v,h1,h2,hv=>by omega
 | m + 1,k,v,h1,h2,hv=>by
  show Q (F.zj.L10.step n (F.zj.L10 n k3 kr m) k3 kr b (v:Int) ((k+3:Nat):Int) f0 g0)
  unfold F.zj.L10.step
  refine bq (fun h => ?_) fun h=>h3 (by rw [decide_eq_false_iff_not] at h; omega) _ _
  rw [decide_eq_true_iff] at h
  rw [za7 (by omega),za]
  generalize hx:b[k+3]'(by omega)=x
  have hxl:=x.toNat_lt
  have e1:IntKind.wrap .i64 (x.toNat:Int)=(x.toNat:Int):=ze (by omega)
  have e2:IntKind.wrap .i64 ((7:Int)*(IntKind.wrap .i64 (((k+3:Nat):Int) - (3:Int))))=((7*k:Nat):Int):=by
   rw [ze (x:=((k+3:Nat):Int) - 3) (by omega),ze (by omega)]; omega
  rw [e1,e2]
  have e3:decide (((7*k:Nat):Int)<0)=false:=decide_eq_false (by omega)
  have e4:((x.toNat:Int)).tmod 128=((x.toNat % 128:Nat):Int):=rfl
  have hs:∃ y:Nat,shlA .i64 (((x.toNat:Int)).tmod 128) ((7*k:Nat):Int)=(y:Int)∧y<2097152:=by
   rw [e4]
   have hm:x.toNat % 128<128:=Nat.mod_lt _ (by decide)
   generalize x.toNat % 128=q at hm
   unfold shlA
   have hmin:min (((7*k:Nat):Int)).toNat (IntKind.bits .i64)=7*k:=by
    have:IntKind.bits .i64=64:=rfl
    rw [this]; omega
   rw [hmin]
   have hk:k=0∨k=1∨k=2:=by omega
   rcases hk with rfl | rfl | rfl
   · exact ⟨q,by rw [ze (by omega)]; omega,by omega⟩
   · exact ⟨q*128,by rw [show (2:Int) ^ (7*1)=128 from rfl,ze (by omega)]; omega,by omega⟩
   · exact ⟨q*16384,by rw [show (2:Int) ^ (7*2)=16384 from rfl,ze (by omega)]; omega,by omega⟩
  obtain ⟨y,hy,hyl⟩:=hs
  rw [hy,e3]
  obtain ⟨z,hz,hzl⟩:=or64 hv hyl
  rw [hz]
  have z0:∀ c g,c≠0→Q (kr 0 0 c g):=fun c g hc=>hr _ _ _ _ (.inl ⟨rfl,fun h=>absurd h hc⟩)
  have fin:decide ((z:Int)>1048576)=false→Q (kr (IntKind.wrap .i64 (((k+3:Nat):Int)+1)) (z:Int) 0 0):=fun h2=>hr _ _ _ _ (.inr (by
   rw [decide_eq_false_iff_not] at h2
   rw [ze (by omega)]
   exact ⟨by omega,by omega,by omega,by omega,by omega,rfl,rfl⟩))
  have go:¬ k=2→Q (F.zj.L10 n k3 kr m b (z:Int) (IntKind.wrap .i64 (((k+3:Nat):Int)+1)) f0 g0):=fun hk=>by
   have:=zqf h3 hr (f0:=f0) (g0:=g0) m (k+1) z (by omega) (by omega) hzl
   rw [zi (by omega)]
   exact this
  have tail:Q (bif (x.toNat:Int)==0 then bif decide (((k+3:Nat):Int)>3) then kr 0 0 21 ((k+3:Nat):Int) else bif decide ((z:Int)>1048576) then kr 0 0 12 ((k+3:Nat):Int) else kr (IntKind.wrap .i64 (((k+3:Nat):Int)+1)) (z:Int) 0 0 else
   bif decide ((z:Int)>1048576) then kr 0 0 12 ((k+3:Nat):Int) else kr (IntKind.wrap .i64 (((k+3:Nat):Int)+1)) (z:Int) 0 0):=
   bq (fun _=>bq (fun _=>z0 _ _ (by decide)) fun _=>bq (fun _=>z0 _ _ (by decide)) fin) fun _=>bq (fun _=>z0 _ _ (by decide)) fin
  refine bq (fun h5=>bq (fun _=>z0 _ _ (by decide)) fun h6 => ?_) fun h5 => ?_
  · rw [h6]
    exact tail
  · rw [cond_false]
    exact bq (fun _ => go (by have:¬ (((k+3:Nat):Int)=5):=by simpa using h5
                              omega)) fun _=>tail
theorem zqg {k0:List UInt8→Int→Int→Option X} {kr:Int→Int→Int→Int→Option X} {t:Int×Int×Int×Int×Int×Int×Unit} {f0 g0:Int} (hb:b.length≤100000000) (h0:Q (k0 b f0 g0)) (hr:∀ f g,(f=0→g=0∧b.length≤5)→Q (kr 0 0 f g)) (ht:t.2.1≠0∧t.2.2.2.1≠0∧t.2.2.2.2.2.1≠0) :
 ∀ (m k:Nat),k≤3→4≤m+k→Q (F.zj.L2 n k0 kr m b t (k:Int) f0 g0)
 | 0,k,h1,h2=>by omega
 | m + 1,k,h1,h2=>by
  show Q (F.zj.L2.step n (F.zj.L2 n k0 kr m) k0 kr b t (k:Int) f0 g0)
  unfold F.zj.L2.step
  have ok:∀ {a c:Option X},(b.length≤5→Q a)→(k<3→k<b.length→Q c)→k<3→Q (bif decide ((k:Int)≥(b.length:Int)) then a else c):=fun ha hc h3=>bq (fun h=>ha (by rw [decide_eq_true_iff] at h; omega)) fun h=>hc h3 (by rw [decide_eq_false_iff_not] at h; omega)
  have nx:k<3→Q (F.zj.L2 n k0 kr m b (t.1,t.2.1,t.2.2.1,t.2.2.2.1,t.2.2.2.2.1,t.2.2.2.2.2.1,()) (IntKind.wrap .i64 ((k:Int)+1)) f0 g0):=fun hk=>by
   rw [zi (by omega)]
   exact zqg hb h0 hr ht m (k+1) (by omega) (by omega)
  refine bq (fun h => ?_) fun _=>h0
  rw [decide_eq_true_iff] at h
  have h3:k<3:=by omega
  have one:∀ {w e:Int},e≠0→k<3→k<b.length→Q ((idx b (k:Int)).bind fun x=>bif !((x.toNat:Int)==w) then kr 0 0 e (k:Int) else F.zj.L2 n k0 kr m b (t.1,t.2.1,t.2.2.1,t.2.2.2.1,t.2.2.2.2.1,t.2.2.2.2.2.1,()) (IntKind.wrap .i64 ((k:Int)+1)) f0 g0):=fun he h3 hl=>by
   rw [za7 hl,za]
   exact bq (fun _=>hr _ _ fun h=>absurd h he) fun _=>nx h3
  refine bq (fun _=>ok (fun h5=>hr _ _ fun _=>⟨rfl,h5⟩) (one ht.1) h3) fun q0=>bq (fun _=>ok (fun h5=>hr _ _ fun _=>⟨rfl,h5⟩) (one ht.2.1) h3) fun q1=>bq (fun _=>ok (fun h5=>hr _ _ fun _=>⟨rfl,h5⟩) (one ht.2.2) h3) fun q2 => ?_
  have a0:¬ ((k:Int)=0):=by simpa using q0
  have a1:¬ ((k:Int)=1):=by simpa using q1
  have a2:¬ ((k:Int)=2):=by simpa using q2
  omega
theorem zqh (hn:2000≤n) (hb:b.length≤100000000):∃ a l f g,F.zj n b=some (a,l,(f,g,()),())∧HP b a l f g:=by
 unfold F.zj
 refine zqg (Q:=fun o=>∃ a l f g,o=some (a,l,(f,g,()),())∧HP b a l f g) hb ?_ (fun f g h=>⟨_,_,_,_,rfl,.inl ⟨rfl,h⟩⟩) (by decide) n 0 (by omega) (by omega)
 exact zqf (Q:=fun o=>∃ a l f g,o=some (a,l,(f,g,()),())∧HP b a l f g) (fun h5 f g=>⟨_,_,_,_,rfl,.inl ⟨rfl,fun _=>⟨rfl,h5⟩⟩⟩) (fun a l f g h=>⟨_,_,_,_,rfl,h⟩) n 0 0 (by omega) (by omega) (by omega)
theorem zu3 (hn:2000≤n) (hb:b.length≤100000000):∃ k f g,F.zal n b=some (k,(f,g,()),())∧((k=0∧(f=0→g=0∧b.length≤5))∨(8≤k∧k≤1048586∧f=0∧g=0)):=by
 obtain ⟨a,l,f,g,h,hp⟩:=zqh hn hb
 unfold F.zal
 rw [h,za]
 rcases hp with hp | hp
 · refine ⟨0,f,g,?_,.inl ⟨rfl,hp.2⟩⟩
   rw [hp.1]; rfl
 · refine ⟨a+l+4,f,g,?_,.inr ?_⟩
   · show (bif a==(0:Int) then _ else _)=_
     rw [show (a==(0:Int))=false from by simp; omega,cond_false,ze (x:=a+l) (by omega),ze (by omega)]
   · exact ⟨by omega,by omega,hp.2.2.2.2.2.1,hp.2.2.2.2.2.2⟩
theorem zs2 (hn:2000≤n) (hb:b.length≤100000000) (hm:b.length<n):PG (F.zam n b):=by
 obtain ⟨a,l,f,g,h,hp⟩:=zqh hn hb
 unfold F.zam F.zal
 rw [h,za]
 have bad:∀ c d,PG (some ([],(c,d,()),())):=fun c d=>⟨_,_,_,rfl,by simp,by simp⟩
 by_cases h0:a=0
 · subst h0
   exact bq (Q:=PG) (fun _=>bad _ _) fun _=>bad _ _
 rcases hp with hp | hp
 · exact absurd hp.1 h0
 obtain ⟨p1,p2,p3,p4,p5,rfl,rfl⟩:=hp
 have e:(a==(0:Int))=false:=by simpa using h0
 obtain ⟨v,hv⟩:=zs1 hn hb hm
 simp only [e,cond_false,za]
 rw [ze (x:=a+l) (by omega),ze (x:=a+l+4) (by omega)]
 refine bq (Q:=PG) (fun _=>bad _ _) fun _=>bq (Q:=PG) (fun _=>bad _ _) fun _=>bq (Q:=PG) (fun _=>bad _ _) fun q1=>bq (Q:=PG) (fun _=>bad _ _) fun q2 => ?_
 rw [decide_eq_false_iff_not] at q1 q2
 rw [hv,za]
 refine bq (Q:=PG) (fun _=>bad _ _) fun _ => ?_
 obtain ⟨k,rfl⟩:=Int.eq_ofNat_of_zero_le (show 0≤a by omega)
 obtain ⟨j,rfl⟩:=Int.eq_ofNat_of_zero_le p4
 rw [ze (by omega),show (k:Int)+(j:Int)+4 - 4=((k+j:Nat):Int) from by omega,zp b k (k+j) (by omega) (by omega),za]
 obtain ⟨m,c,d,hm,h1,h2⟩:=zqc (b:=List.drop k (List.take (k+j) b)) hn (by simp; omega)
 rw [hm,za]
 exact bq (Q:=PG) (fun _=>bad _ _) fun _=>⟨_,_,_,rfl,h1,h2⟩
end
end Go.AM
set_option linter.unusedVariables false
set_option linter.unusedSimpArgs false
namespace Go.AM
abbrev FrL:=Int×Int×List UInt8×Int×Int
noncomputable def hdF (n:Nat) (o:List UInt8):Int×Int:=match F.zal n o with
 | some (k,(f,_,_),_)=>(k,f)
 | none=>(0,0)
theorem zk2 {n:Nat} (hn:2000≤n) {o:List UInt8} (ho:o.length≤100000000) :
 ∃ g:Int,F.zal n o=some ((hdF n o).1,((hdF n o).2,g,()),())∧((hdF n o).2=0→g=0)∧(((hdF n o).1=0∧((hdF n o).2=0→o.length≤5))∨(8≤(hdF n o).1∧(hdF n o).1≤1048586∧(hdF n o).2=0)):=by
 obtain ⟨k,f,g,h,hp⟩:=zu3 (n:=n) (b:=o) hn ho
 have e:hdF n o=(k,f):=by unfold hdF; rw [h]
 rw [e]
 refine ⟨g,h,?_,?_⟩
 · rcases hp with hp | hp
   · exact fun h=>(hp.2 h).1
   · exact fun _=>hp.2.2.2
 · rcases hp with hp | hp
   · exact .inl ⟨hp.1,fun h=>(hp.2 h).2⟩
   · exact .inr ⟨hp.1,hp.2.1,hp.2.2.1⟩
noncomputable def frs (n:Nat) (mo:Int):List UInt8→Nat→List UInt8→Int→List FrL×Option (Nat×List UInt8×Int)
 | [],a,o,c=>([],some (a,o,c))
 | x :: r,a,o,c =>
  if c>0 then
   if ((o.length+1:Nat):Int)<c then frs n mo r (a+1) (o++[x]) c
   else (((((a+1:Nat):Int) - ((o.length+1:Nat):Int),((a+1:Nat):Int),o++[x],0,0):FrL)::(frs n mo r (a+1) [] 0).1,(frs n mo r (a+1) [] 0).2)
  else if (hdF n (o++[x])).2≠0 then ([(((a+1:Nat):Int) - ((o.length+1:Nat):Int),((a+1:Nat):Int),[],(hdF n (o++[x])).2,(a:Int))],none)
  else if (hdF n (o++[x])).1>0∧(hdF n (o++[x])).1 - ((o.length+1:Nat):Int) - 4>mo then ([(((a+1:Nat):Int) - ((o.length+1:Nat):Int),((a+1:Nat):Int),[],12,(a:Int))],none)
  else if (hdF n (o++[x])).1=0∨((o.length+1:Nat):Int)<(hdF n (o++[x])).1 then frs n mo r (a+1) (o++[x]) (hdF n (o++[x])).1
  else (((((a+1:Nat):Int) - ((o.length+1:Nat):Int),((a+1:Nat):Int),o++[x],0,0):FrL)::(frs n mo r (a+1) [] 0).1,(frs n mo r (a+1) [] 0).2)
def fcons (l:List FrL) (y:List FrL×Option (Nat×List UInt8×Int)):List FrL×Option (Nat×List UInt8×Int):=(l++y.1,y.2)
def FI (o:List UInt8) (c:Int):Prop:=c=0∨((o.length:Int)<c∧c≤1048586)
theorem zk3 (n:Nat) (mo:Int) {c:Int}:∀ (x r:List UInt8) (a:Nat) (o:List UInt8),0<c→x≠[]→((o.length+x.length:Nat):Int)≤c →
 frs n mo (x++r) a o c=if ((o.length+x.length:Nat):Int)<c then frs n mo r (a+x.length) (o++x) c
  else fcons [(((a+x.length:Nat):Int) - ((o.length+x.length:Nat):Int),((a+x.length:Nat):Int),o++x,0,0)] (frs n mo r (a+x.length) [] 0)
 | [],r,a,o,h1,h2,h3=>absurd rfl h2
 | [x],r,a,o,h1,h2,h3=>by
  show frs n mo (x::r) a o c=_
  rw [frs,if_pos h1]
  rfl
 | x::y::z,r,a,o,h1,h2,h3=>by
  simp only [List.length_cons] at h3
  show frs n mo (x::(y::z++r)) a o c=_
  rw [frs,if_pos h1,if_pos (by omega),zk3 n mo (y::z) r (a+1) (o++[x]) h1 (by simp) (by simp; omega)]
  simp only [List.append_assoc,List.singleton_append,List.length_cons,List.length_append,List.length_nil]
  rw [show o.length+(0+1)+(z.length+1)=o.length+(z.length+1+1) from by omega,show a+1+(z.length+1)=a+(z.length+1+1) from by omega]
noncomputable def fnext (n:Nat) (mo:Int) (q:List UInt8) (z:List FrL×Option (Nat×List UInt8×Int)):List FrL×Option (Nat×List UInt8×Int):=match z.2 with
 | some s=>fcons z.1 (frs n mo q s.1 s.2.1 s.2.2)
 | none=>z
theorem zc8 (n:Nat) (mo:Int):∀ (p q:List UInt8) (a:Nat) (o:List UInt8) (c:Int),frs n mo (p++q) a o c=fnext n mo q (frs n mo p a o c)
 | [],q,a,o,c=>by show frs n mo q a o c=fcons [] (frs n mo q a o c); rfl
 | x :: p,q,a,o,c=>by
  have key:∀ (f:FrL) (y:List FrL×Option (Nat×List UInt8×Int)),y=fnext n mo q (frs n mo p (a+1) [] 0)→(f::y.1,y.2)=fnext n mo q (f::(frs n mo p (a+1) [] 0).1,(frs n mo p (a+1) [] 0).2):=by
   intro f y hy
   generalize frs n mo p (a+1) [] 0=z at hy ⊢
   obtain ⟨l,st⟩:=z
   subst hy
   cases st with
   | none=>rfl
   | some z=>rfl
  rw [List.cons_append,frs,frs]
  by_cases h1:c>0
  · rw [if_pos h1,if_pos h1]
    by_cases h2:((o.length+1:Nat):Int)<c
    · rw [if_pos h2,if_pos h2]; exact zc8 n mo p q _ _ _
    · rw [if_neg h2,if_neg h2]; exact key _ _ (zc8 n mo p q _ _ _)
  · rw [if_neg h1,if_neg h1]
    by_cases h2:(hdF n (o++[x])).2≠0
    · rw [if_pos h2,if_pos h2]; rfl
    rw [if_neg h2,if_neg h2]
    by_cases h3:(hdF n (o++[x])).1>0∧(hdF n (o++[x])).1 - ((o.length+1:Nat):Int) - 4>mo
    · rw [if_pos h3,if_pos h3]; rfl
    rw [if_neg h3,if_neg h3]
    by_cases h4:(hdF n (o++[x])).1=0∨((o.length+1:Nat):Int)<(hdF n (o++[x])).1
    · rw [if_pos h4,if_pos h4]; exact zc8 n mo p q _ _ _
    · rw [if_neg h4,if_neg h4]; exact key _ _ (zc8 n mo p q _ _ _)
def FrOK (L:Nat) (x:FrL):Prop:=x.2.2.1.length≤L ∧ -1≤x.1∧x.1≤L∧(x.2.2.2.1=0→x.2.2.2.2=0)
theorem zg8 {n:Nat} (hn:2000≤n) (mo:Int) {L:Nat} (hL:L≤10000000):∀ (p:List UInt8) (a:Nat) (o:List UInt8) (c:Int),FI o c→o.length≤a→a+p.length≤L →
 (frs n mo p a o c).1.length≤p.length∧(∀ x∈(frs n mo p a o c).1,FrOK L x)∧∀ s,(frs n mo p a o c).2=some s→s.1=a+p.length∧FI s.2.1 s.2.2∧s.2.1.length≤s.1
 | [],a,o,c,h1,h2,h3=>by
  rw [frs]
  exact ⟨Nat.le_refl _,fun x hx=>(by cases hx),fun s hs=>by obtain rfl:=Option.some.inj hs; exact ⟨rfl,h1,h2⟩⟩
 | x :: p,a,o,c,h1,h2,h3=>by
  simp only [List.length_cons] at h3
  have one:∀ f:FrL,FrOK L f→(f::(frs n mo p (a+1) [] 0).1).length≤(x::p).length∧(∀ y∈f::(frs n mo p (a+1) [] 0).1,FrOK L y)∧∀ s,(frs n mo p (a+1) [] 0).2=some s→s.1=a+(x::p).length∧FI s.2.1 s.2.2∧s.2.1.length≤s.1:=fun f hf=>by
   obtain ⟨i1,i2,i3⟩:=zg8 hn mo hL p (a+1) [] 0 (.inl rfl) (by simp) (by omega)
   refine ⟨by simp; omega,fun y hy => ?_,fun s hs => ?_⟩
   · rcases List.mem_cons.1 hy with rfl | hy
     · exact hf
     · exact i2 y hy
   · obtain ⟨j1,j2⟩:=i3 s hs
     exact ⟨by simp; omega,j2⟩
  have go:∀ c':Int,FI (o++[x]) c'→(frs n mo p (a+1) (o++[x]) c').1.length≤(x::p).length∧(∀ y∈(frs n mo p (a+1) (o++[x]) c').1,FrOK L y)∧∀ s,(frs n mo p (a+1) (o++[x]) c').2=some s→s.1=a+(x::p).length∧FI s.2.1 s.2.2∧s.2.1.length≤s.1:=fun c' hc=>by
   obtain ⟨i1,i2,i3⟩:=zg8 hn mo hL p (a+1) (o++[x]) c' hc (by simp; omega) (by omega)
   refine ⟨by simp; omega,i2,fun s hs => ?_⟩
   obtain ⟨j1,j2⟩:=i3 s hs
   exact ⟨by simp; omega,j2⟩
  have ok:FrOK L (((a+1:Nat):Int) - ((o.length+1:Nat):Int),((a+1:Nat):Int),o++[x],0,0):=⟨by simp; omega,by simp only; omega,by simp only; omega,fun _=>rfl⟩
  have bad:∀ e:Int,e≠0→([(((a+1:Nat):Int) - ((o.length+1:Nat):Int),((a+1:Nat):Int),[],e,(a:Int))]:List FrL).length≤(x::p).length∧(∀ y∈([(((a+1:Nat):Int) - ((o.length+1:Nat):Int),((a+1:Nat):Int),[],e,(a:Int))]:List FrL),FrOK L y)∧∀ s:Nat×List UInt8×Int,none=some s→s.1=a+(x::p).length∧FI s.2.1 s.2.2∧s.2.1.length≤s.1:=fun e he=>by
   refine ⟨by simp,fun y hy => ?_,fun s hs=>by cases hs⟩
   rw [List.mem_singleton.1 hy]
   exact ⟨by simp,by simp only; omega,by simp only; omega,fun h=>absurd h he⟩
  rw [frs]
  by_cases c1:c>0
  · rw [if_pos c1]
    by_cases c2:((o.length+1:Nat):Int)<c
    · rw [if_pos c2]
      refine go c (.inr ⟨by simp; omega,?_⟩)
      rcases h1 with h1 | h1
      · omega
      · exact h1.2
    · rw [if_neg c2]; exact one _ ok
  · rw [if_neg c1]
    by_cases c2:(hdF n (o++[x])).2≠0
    · rw [if_pos c2]; exact bad _ c2
    rw [if_neg c2]
    by_cases c3:(hdF n (o++[x])).1>0∧(hdF n (o++[x])).1 - ((o.length+1:Nat):Int) - 4>mo
    · rw [if_pos c3]; exact bad _ (by decide)
    rw [if_neg c3]
    by_cases c4:(hdF n (o++[x])).1=0∨((o.length+1:Nat):Int)<(hdF n (o++[x])).1
    · rw [if_pos c4]
      obtain ⟨g,_,_,hk⟩:=zk2 hn (o:=o++[x]) (by simp; omega)
      refine go _ ?_
      rcases hk with hk | hk
      · exact .inl hk.1
      · exact .inr ⟨by simp; omega,hk.2.1⟩
    · rw [if_neg c4]; exact one _ ok
def FrGo {X:Type} (k0:Int→List UInt8→Int→List FrL→List UInt8→Nat→Nat→Option X) (kr:Int→List UInt8→Int→Bool→List FrL→List UInt8→Nat→Nat→Nat→Option X) (out:List FrL) (y:List FrL×Option (Nat×List UInt8×Int)) (r:Option X):Prop:=
 match y.2 with
 | some (a,o,c)=>r=k0 (a:Int) o c (out++y.1) [] o.length (out++y.1).length
 | none=>∃ z,r=kr z [] 0 true (out++y.1) [] 0 (out++y.1).length 0
section
variable {X:Type} {n:Nat} {k0:Int→List UInt8→Int→List FrL→List UInt8→Nat→Nat→Option X} {kr:Int→List UInt8→Int→Bool→List FrL→List UInt8→Nat→Nat→Nat→Option X}
theorem FrGo.cons {out:List FrL} {f:FrL} {y:List FrL×Option (Nat×List UInt8×Int)} {r:Option X} (h:FrGo k0 kr (out++[f]) y r):FrGo k0 kr out (fcons [f] y) r:=by
 obtain ⟨l,st⟩:=y
 cases st with
 | none=>obtain ⟨z,h⟩:=h; exact ⟨z,by rw [h]; simp [fcons]⟩
 | some s =>
  have h:r=k0 (s.1:Int) s.2.1 s.2.2 (out++[f]++l) [] s.2.1.length (out++[f]++l).length:=h
  show r=k0 (s.1:Int) s.2.1 s.2.2 (out++([f]++l)) [] s.2.1.length (out++([f]++l)).length
  rw [h,List.append_assoc]
theorem apF {t:Nat} {l:List FrL} {r:Option X} (h:l.length≤100000) (ht:t=l.length):(bif decide ((l.length+1)*56≤2 ^ 46)&&decide (0<56∧56≤2 ^ 20) then bif Nat.beq t l.length then r else none else none)=r:=by
 rw [decide_eq_true (by omega),ht,Nat.beq_refl]; rfl
theorem opF {t:Nat} {o x:List UInt8} {r:Option X} (h:o.length+x.length≤100000) (ht:t=o.length):(bif decide ((o.length+x.length)*1≤2 ^ 46)&&decide (0<1∧1≤2 ^ 20) then bif Nat.beq t o.length then r else none else none)=r:=by
 rw [decide_eq_true (by omega),ht,Nat.beq_refl]; rfl
theorem zbt (hn : 2000≤n) (mo:Int):∀ (m:Nat) (s:List UInt8) (a:Nat) (o:List UInt8) (c:Int) (out:List FrL),s.length<m→FI o c→o.length≤a→a+s.length≤100000→out.length+s.length≤100000 →
 FrGo k0 kr out (frs n mo s a o c) (F.zd.L0_chunk_Framer_frames_1 n k0 kr m mo (a:Int) o c out s o.length out.length)
 | 0,s,a,o,c,out,h1,h2,h3,h4,h5=>by omega
 | m + 1, s, a,o,c,out,h1,h2,h3,h4,h5=>by
  show FrGo k0 kr out _ (F.zd.L0_chunk_Framer_frames_1.step n (F.zd.L0_chunk_Framer_frames_1 n k0 kr m) k0 kr mo (a:Int) o c out s o.length out.length)
  unfold F.zd.L0_chunk_Framer_frames_1.step
  cases s with
  | nil =>
   rw [show decide ((([]:List UInt8).length:Int)>(0:Int))=false from rfl,cond_false,frs]
   show _=k0 _ _ _ (out++[]) _ _ (out++[]).length
   rw [List.append_nil]
  | cons x r =>
   simp only [List.length_cons] at h1 h4 h5
   rw [show decide (((x::r).length:Int)>(0:Int))=true from decide_eq_true (by simp),cond_true]
   have hl:(x::r).length=r.length+1:=rfl
   by_cases hc:c>0
   · have h2:(o.length:Int)<c∧c≤1048586:=by
      rcases h2 with h | h
      · omega
      · exact h
     rw [decide_eq_true hc,cond_true,ze (x:=c - (o.length:Int)) (by omega)]
     obtain ⟨j,hj,hj1,hj2,hj3⟩:∃ j:Nat,(if ((x::r).length:Int)<c - (o.length:Int) then ((x::r).length:Int) else c - (o.length:Int))=(j:Int)∧1≤j∧j≤(x::r).length∧((o.length+j:Nat):Int)≤c:=by
      by_cases hh:((x::r).length:Int)<c - (o.length:Int)
      · rw [if_pos hh]; exact ⟨_,rfl,by simp,Nat.le_refl _,by simp at hh ⊢; omega⟩
      · rw [if_neg hh]; exact ⟨(c - (o.length:Int)).toNat,by omega,by omega,by omega,by omega⟩
     have hsub:sub (x::r) (0:Int) (j:Int)=some ((x::r).take j):=by
      have:=zp (x::r) 0 j (by omega) hj2
      simpa using this
     rw [hj,hsub,za,zaj hj2,za]
     have hx:((x::r).take j).length=j:=by rw [List.length_take]; omega
     have hd:((x::r).drop j).length=r.length+1 - j:=by rw [List.length_drop]; rfl
     have hb:=zk3 n mo (c:=c) ((x::r).take j) ((x::r).drop j) a o (by omega) (by intro e; rw [e] at hx; simp at hx; omega) (by rw [hx]; exact hj3)
     rw [List.take_append_drop,hx] at hb
     rw [hb,opF (by omega) rfl,hx,show (c==(0:Int))=false from by simp; omega,cond_false,ze (x:=(a:Int)+(j:Int)) (by omega),List.length_append,hx]
     by_cases hlt:((o.length+j:Nat):Int)<c
     · rw [if_pos hlt,decide_eq_true hlt,cond_true]
       have:=zbt hn mo m ((x::r).drop j) (a+j) (o++(x::r).take j) c out (by omega) (.inr ⟨by rw [List.length_append,hx]; exact hlt,h2.2⟩) (by rw [List.length_append,hx]; omega) (by omega) (by omega)
       rw [List.length_append,hx] at this
       exact this
     · rw [if_neg hlt,decide_eq_false hlt,cond_false,apF (by omega) rfl,ze (by omega)]
       exact (zbt hn mo m ((x::r).drop j) (a+j) [] 0 (out++[_]) (by omega) (.inl rfl) (by simp) (by omega) (by simp; omega)).cons
   · have hc0:c=0:=by
      rcases h2 with h | h
      · exact h
      · omega
     subst hc0
     have s1:sub (x::r) (0:Int) (1:Int)=some [x]:=by
      have:=zp (x::r) 0 1 (by omega) (by simp)
      simpa using this
     have s2:sub (x::r) (1:Int) ((x::r).length:Int)=some r:=zaj (s:=x::r) (p:=1) (by simp)
     obtain ⟨g,hH,hg,hk⟩:=zk2 hn (o:=o++[x]) (by simp; omega)
     rw [decide_eq_false hc,cond_false,s1,za,opF (by simp; omega) rfl,hH,za,s2,frs,if_neg hc]
     have ho1:(o++[x]).length=o.length+1:=by simp
     have ea:IntKind.wrap .i64 ((a:Int)+(([x]:List UInt8).length:Int))=((a+1:Nat):Int):=by
      rw [ze (by simp; omega)]; simp
     have ep:IntKind.wrap .i64 (((a+1:Nat):Int) - ((o.length+1:Nat):Int))=((a+1:Nat):Int) - ((o.length+1:Nat):Int):=ze (by omega)
     have e1:IntKind.wrap .i64 (((a+1:Nat):Int) - 1)=(a:Int):=by rw [ze (by omega)]; omega
     simp only [ea,ho1,ep,e1,za]
     generalize hdF n (o++[x])=z at hg hk ⊢
     obtain ⟨k,f⟩:=z
     dsimp only at hg hk ⊢
     by_cases hf:f=0
     · subst hf
       have hg0:=hg rfl
       subst hg0
       rw [if_neg (by simp),show (!(((0:Int)==0)&&((0:Int)==0)))=false from rfl,cond_false]
       have kw:k=0∨8≤k∧k≤1048586:=hk.imp And.left fun h=>⟨h.1,h.2.1⟩
       have e2:IntKind.wrap .i64 (IntKind.wrap .i64 (k - ((o.length+1:Nat):Int)) - 4)=k - ((o.length+1:Nat):Int) - 4:=by
        rw [ze (x:=k - ((o.length+1:Nat):Int)) (by omega),ze (by omega)]
       have tail:¬ (k>0∧k - ((o.length+1:Nat):Int) - 4>mo)→FrGo k0 kr out (if k>0∧k - ((o.length+1:Nat):Int) - 4>mo then ([(((a+1:Nat):Int) - ((o.length+1:Nat):Int),((a+1:Nat):Int),[],12,(a:Int))],none)
        else if k=0∨((o.length+1:Nat):Int)<k then frs n mo r (a+1) (o++[x]) k
        else (((((a+1:Nat):Int) - ((o.length+1:Nat):Int),((a+1:Nat):Int),o++[x],0,0):FrL)::(frs n mo r (a+1) [] 0).1,(frs n mo r (a+1) [] 0).2))
        (bif k==0 then F.zd.L0_chunk_Framer_frames_1 n k0 kr m mo ((a+1:Nat):Int) (o++[x]) k out r (o.length+1) out.length
        else bif decide (((o.length+1:Nat):Int)<k) then F.zd.L0_chunk_Framer_frames_1 n k0 kr m mo ((a+1:Nat):Int) (o++[x]) k out r (o.length+1) out.length
        else bif decide ((out.length+1)*56≤2 ^ 46)&&decide (0<56∧56≤2 ^ 20) then bif Nat.beq out.length out.length then
         F.zd.L0_chunk_Framer_frames_1 n k0 kr m mo ((a+1:Nat):Int) [] 0 (out++[(((a+1:Nat):Int) - ((o.length+1:Nat):Int),((a+1:Nat):Int),o++[x],0,0)]) r 0 (out++[(((a+1:Nat):Int) - ((o.length+1:Nat):Int),((a+1:Nat):Int),o++[x],(0:Int),(0:Int))]).length else none else none):=fun hno=>by
        rw [if_neg hno]
        have go:FI (o++[x]) k→FrGo k0 kr out (frs n mo r (a+1) (o++[x]) k) (F.zd.L0_chunk_Framer_frames_1 n k0 kr m mo ((a+1:Nat):Int) (o++[x]) k out r (o.length+1) out.length):=fun hi=>by
         have:=zbt hn mo m r (a+1) (o++[x]) k out (by omega) hi (by omega) (by omega) (by omega)
         rw [ho1] at this
         exact this
        by_cases hk0:k=0
        · rw [if_pos (.inl hk0),hk0,beq_self_eq_true,cond_true]
          rw [hk0] at go
          exact go (.inl rfl)
        rw [beq_eq_false_iff_ne.2 hk0,cond_false]
        by_cases hlt:((o.length+1:Nat):Int)<k
        · rw [if_pos (.inr hlt),decide_eq_true hlt,cond_true]
          exact go (.inr ⟨by rw [ho1]; exact hlt,by omega⟩)
        · rw [if_neg (by omega),decide_eq_false hlt,cond_false,apF (by omega) rfl]
          exact (zbt hn mo m r (a+1) [] 0 (out++[_]) (by omega) (.inl rfl) (by simp) (by omega) (by simp; omega)).cons
       by_cases hp:k>0
       · rw [decide_eq_true hp,cond_true,e2]
         by_cases hm:k - ((o.length+1:Nat):Int) - 4>mo
         · rw [decide_eq_true hm,cond_true,apF (by omega) rfl,if_pos ⟨hp,hm⟩]
           exact ⟨_,rfl⟩
         · rw [decide_eq_false hm,cond_false]
           exact tail fun h=>hm h.2
       · rw [decide_eq_false hp,cond_false]
         exact tail fun h=>hp h.1
     · rw [if_pos hf,show (!((f==0)&&(g==0)))=true from by simp [hf],cond_true,show (!(f==0))=true from by simp [hf],cond_true,apF (by omega) rfl]
       exact ⟨_,rfl⟩
end
def FI2 (mo:Int) (o:List UInt8) (c:Int):Prop:=(c≤0∧o.length≤5)∨((o.length:Int)<c∧c≤mo+10)
theorem zd0 {n:Nat} (hn:2000≤n) {mo:Int} (h1:1≤mo):∀ (p:List UInt8) (a:Nat) (o:List UInt8) (c:Int),FI2 mo o c→o.length+p.length≤10000→∀ s,(frs n mo p a o c).2=some s→FI2 mo s.2.1 s.2.2
 | [],a,o,c,h,_,s,hs=>by rw [frs] at hs; obtain rfl:=Option.some.inj hs; exact h
 | x :: p,a,o,c,h,hl,s,hs=>by
  simp only [List.length_cons] at hl
  have zero:(frs n mo p (a+1) [] 0).2=some s→FI2 mo s.2.1 s.2.2:=zd0 hn h1 p (a+1) [] 0 (.inl ⟨by omega,by simp⟩) (by simp; omega) s
  rw [frs] at hs
  by_cases c1:c>0
  · rw [if_pos c1] at hs
    have h:(o.length:Int)<c∧c≤mo+10:=by
     rcases h with h | h
     · omega
     · exact h
    by_cases c2:((o.length+1:Nat):Int)<c
    · rw [if_pos c2] at hs
      exact zd0 hn h1 p (a+1) (o++[x]) c (.inr ⟨by simp; omega,h.2⟩) (by simp; omega) s hs
    · rw [if_neg c2] at hs; exact zero hs
  · rw [if_neg c1] at hs
    have h:o.length≤5:=by
     rcases h with h | h
     · exact h.2
     · omega
    obtain ⟨g,_,_,hk⟩:=zk2 hn (o:=o++[x]) (by simp; omega)
    by_cases c2:(hdF n (o++[x])).2≠0
    · rw [if_pos c2] at hs; cases hs
    rw [if_neg c2] at hs
    by_cases c3:(hdF n (o++[x])).1>0∧(hdF n (o++[x])).1 - ((o.length+1:Nat):Int) - 4>mo
    · rw [if_pos c3] at hs; cases hs
    rw [if_neg c3] at hs
    by_cases c4:(hdF n (o++[x])).1=0∨((o.length+1:Nat):Int)<(hdF n (o++[x])).1
    · rw [if_pos c4] at hs
      refine zd0 hn h1 p (a+1) (o++[x]) _ ?_ (by simp; omega) s hs
      rcases hk with hk | hk
      · exact .inl ⟨by omega,hk.2 (by simpa using c2)⟩
      · refine .inr ⟨by simp; omega,?_⟩
        have:¬ (hdF n (o++[x])).1 - ((o.length+1:Nat):Int) - 4>mo:=fun h=>c3 ⟨by omega,h⟩
        omega
    · rw [if_neg c4] at hs; exact zero hs
theorem zlv {n:Nat} (hn:2000≤n) {mo:Int} (h1:1≤mo) {p:List UInt8} (hp:p.length≤10000) {a:Nat} {o:List UInt8} {c:Int} (h:(frs n mo p 0 [] 0).2=some (a,o,c)):(o.length:Int)≤mo+10:=by
 rcases zd0 hn h1 p 0 [] 0 (.inl ⟨by omega,by simp⟩) (by simp; omega) _ h with h | h
 · have:=h.2; dsimp only at this; omega
 · have:=h.1; have:=h.2; dsimp only at *; omega
end Go.AM
set_option linter.unusedVariables false
set_option linter.unusedSimpArgs false
namespace Go.AM
def SmallB (l:List MetL):Prop:=l.length≤2000∧∀ x∈l,x.2.2.1.length≤1000∧x.2.2.2.2.1.length≤1000
end Go.AM
set_option linter.unusedVariables false
set_option linter.unusedSimpArgs false
namespace Go.AM
noncomputable def dcd (n:Nat) (b:List UInt8):List MetL×Int×Int:=match F.zam n b with
 | some (l,(c,d,_),_)=>(l,c,d)
 | none=>([],0,0)
theorem zqi {n:Nat} (hn:2000≤n) {b:List UInt8} (hb:b.length≤100000) (hm:b.length<n) :
 F.zam n b=some ((dcd n b).1,((dcd n b).2.1,(dcd n b).2.2,()),())∧(dcd n b).1.length≤1000∧∀ m∈(dcd n b).1,MB m:=by
 obtain ⟨l,c,d,h,h1,h2⟩:=zs2 (n:=n) (b:=b) hn (by omega) hm
 have e:dcd n b=(l,c,d):=by unfold dcd; rw [h]
 rw [e]
 exact ⟨h,h1,h2⟩
noncomputable def evB (n:Nat):List FrL→List EvL×Bool
 | []=>([],false)
 | x :: r =>
  if x.2.2.2.1=0 then
   if (dcd n x.2.2.1).2.1=0∧(dcd n x.2.2.1).2.2=0 then ((((1,x.1,x.2.1,(dcd n x.2.2.1).1,0,0):EvL))::(evB n r).1,(evB n r).2)
   else ([(2,x.1,x.2.1,[],(dcd n x.2.2.1).2.1,IntKind.wrap .i64 (x.1+(dcd n x.2.2.1).2.2))],true)
  else ([(2,x.1,x.2.1,[],x.2.2.2.1,x.2.2.2.2)],true)
theorem zmr (n:Nat) (q:List FrL):∀ p:List FrL,evB n (p++q)=if (evB n p).2=true then evB n p else ((evB n p).1++(evB n q).1,(evB n q).2)
 | []=>by rw [List.nil_append,evB,if_neg (by simp)]; rfl
 | x :: p=>by
  rw [List.cons_append,evB,evB]
  by_cases h1:x.2.2.2.1=0
  · rw [if_pos h1,if_pos h1]
    by_cases h2:(dcd n x.2.2.1).2.1=0∧(dcd n x.2.2.1).2.2=0
    · rw [if_pos h2,if_pos h2,zmr n q p]
      dsimp only
      by_cases h3:(evB n p).2=true
      · rw [if_pos h3,if_pos h3]
      · rw [if_neg h3,if_neg h3]; rfl
    · rw [if_neg h2,if_neg h2,if_pos rfl]
  · rw [if_neg h1,if_neg h1,if_pos rfl]
def EvOK (x:EvL):Prop:=SmallB x.2.2.2.1∧x.2.2.2.1.length≤1000∧SmallL x.2.2.2.1
theorem zd1 {a b c d e:Int}:EvOK (a,b,c,[],d,e):=⟨⟨by simp,fun x hx=>by cases hx⟩,by simp,fun x hx=>by cases hx⟩
theorem ze5 {n:Nat} (hn:2000≤n) {L:Nat} (hL:L≤100000) (hm:L<n):∀ l:List FrL,(∀ x∈l,FrOK L x)→(evB n l).1.length≤l.length∧∀ e∈(evB n l).1,EvOK e
 | [],_=>⟨by rw [evB]; exact Nat.le_refl _,fun e he=>by rw [evB] at he; cases he⟩
 | x :: l, h=>by
  have hx:=h x (by simp)
  obtain ⟨i1,i2⟩:=ze5 hn hL hm l fun y hy=>h y (by simp [hy])
  have bad:∀ c d:Int,([((2,x.1,x.2.1,[],c,d):EvL)]).length≤(x::l).length∧∀ e∈([((2,x.1,x.2.1,[],c,d):EvL)]),EvOK e:=fun c d=>⟨by simp,fun e he=>by rw [List.mem_singleton.1 he]; exact zd1⟩
  rw [evB]
  by_cases h1:x.2.2.2.1=0
  · rw [if_pos h1]
    by_cases h2:(dcd n x.2.2.1).2.1=0∧(dcd n x.2.2.1).2.2=0
    · rw [if_pos h2]
      refine ⟨by simp; omega,fun e he => ?_⟩
      rcases List.mem_cons.1 he with rfl | he
      · obtain ⟨_,d1,d2⟩:=zqi hn (b:=x.2.2.1) (by have:=hx.1; omega) (by have:=hx.1; omega)
        have d3:∀ y∈(dcd n x.2.2.1).1,y.2.2.1.length≤1000∧y.2.2.2.2.1.length≤1000:=fun y hy=>by
         have:=d2 y hy
         exact ⟨Nat.le_trans this.1 (by decide),Nat.le_trans this.2 (by decide)⟩
        exact ⟨⟨by show (dcd n x.2.2.1).1.length≤_; omega,d3⟩,d1,d3⟩
      · exact i2 e he
    · rw [if_neg h2]; exact bad _ _
  · rw [if_neg h1]; exact bad _ _
section
variable {X:Type} {n:Nat} {k0 kr:Bool→List EvL→Nat→Option X}
theorem ztf (hn:2000≤n) {L:Nat} (hL:L≤100000) (hm0:L<n) (fl:List FrL) (hfl:fl.length≤100000) (hx:∀ x∈fl,FrOK L x) :
 ∀ (r:List FrL) (i m:Nat) (out:List EvL),fl.drop i=r→out.length≤i→r.length<m →
 F.zd.L2_sess_Sess_binary_1 n k0 kr m fl (fl.length:Int) (i:Int) false out out.length=bif (evB n r).2 then kr true (out++(evB n r).1) (out++(evB n r).1).length else k0 false (out++(evB n r).1) (out++(evB n r).1).length:=by
 intro r
 induction r with
 | nil =>
  intro i m out hi ho hm
  have:=zz hi
  obtain ⟨m,rfl⟩:∃ q,m=q+1:=⟨m - 1,by omega⟩
  rw [F.zd.L2_sess_Sess_binary_1]
  unfold F.zd.L2_sess_Sess_binary_1.step
  dsimp only
  rw [zg (by omega),evB,cond_false,List.append_nil]
 | cons x r ih =>
  intro i m out hi ho hm
  obtain ⟨g1,g2,g3⟩:=zx hi
  obtain ⟨m,rfl⟩:∃ q,m=q+1:=⟨m - 1,by omega⟩
  obtain ⟨hx1,hx2,hx3,hx4⟩:=hx x (List.mem_of_getElem? g2)
  obtain ⟨hd,_,_⟩:=zqi hn (b:=x.2.2.1) (by omega) (by omega)
  rw [F.zd.L2_sess_Sess_binary_1]
  unfold F.zd.L2_sess_Sess_binary_1.step
  dsimp only
  rw [zf (by omega),zt,g2,za,zi (by omega),evB]
  by_cases h1:x.2.2.2.1=0
  · rw [h1,hx4 h1,if_pos rfl,show (((0:Int)==0)&&((0:Int)==0))=true from rfl,cond_true,hd,za]
    by_cases h2:(dcd n x.2.2.1).2.1=0∧(dcd n x.2.2.1).2.2=0
    · rw [if_pos h2]
      dsimp only
      rw [h2.1,h2.2,show (((0:Int)==0)&&((0:Int)==0))=true from rfl,cond_true,growE (by omega),Nat.beq_refl,cond_true]
      refine (ih (i+1) m _ g3 (by simp; omega) (by simp at hm; omega)).trans ?_
      simp only [List.append_assoc,List.singleton_append]
    · rw [if_neg h2]
      dsimp only
      rw [show (((dcd n x.2.2.1).2.1==0)&&((dcd n x.2.2.1).2.2==0))=false from by simpa using h2,cond_false,growE (by omega),Nat.beq_refl,cond_true,cond_true]
  · rw [if_neg h1,show ((x.2.2.2.1==0)&&(x.2.2.2.2==0))=false from by simp [h1],cond_false,growE (by omega),Nat.beq_refl,cond_true,cond_true]
end
noncomputable def frO (n:Nat) (mo:Int) (p:List UInt8):List FrL×Option (Nat×List UInt8×Int):=frs n mo p 0 [] 0
noncomputable def evO (n:Nat) (mo:Int) (p:List UInt8):List EvL×Bool:=evB n (frO n mo p).1
def tailO (a:Nat) (o:List UInt8):List EvL:=if o=[] then [] else [(3,(a:Int) - (o.length:Int),(a:Int),[],30,(a:Int) - (o.length:Int))]
noncomputable def whO (n:Nat) (mo:Int) (p:List UInt8):List EvL:=if (evO n mo p).2=true then (evO n mo p).1 else (evO n mo p).1++match (frO n mo p).2 with
 | some (a,o,_)=>tailO a o
 | none=>[]
theorem zbh {n:Nat} {mo:Int}:∀ (p:List UInt8) (a:Nat) (o:List UInt8) (c:Int),(frs n mo p a o c).2=none→(evB n (frs n mo p a o c).1).2=true
 | [],a,o,c,h=>by rw [frs] at h; cases h
 | x :: p,a,o,c,h=>by
  have one:∀ f:FrL,(frs n mo p (a+1) [] 0).2=none→(evB n (f::(frs n mo p (a+1) [] 0).1)).2=true:=fun f hf=>by
   have:=zbh p (a+1) [] 0 hf
   rw [evB]
   split
   · split
     · exact this
     · rfl
   · rfl
  have bad:∀ f:FrL,f.2.2.2.1≠0→(evB n [f]).2=true:=fun f hf=>by rw [evB,if_neg hf]
  rw [frs] at h ⊢
  by_cases c1:c>0
  · rw [if_pos c1] at h ⊢
    by_cases c2:((o.length+1:Nat):Int)<c
    · rw [if_pos c2] at h ⊢; exact zbh p _ _ _ h
    · rw [if_neg c2] at h ⊢; exact one _ h
  · rw [if_neg c1] at h ⊢
    by_cases c2:(hdF n (o++[x])).2≠0
    · rw [if_pos c2] at h ⊢; exact bad _ c2
    rw [if_neg c2] at h ⊢
    by_cases c3:(hdF n (o++[x])).1>0∧(hdF n (o++[x])).1 - ((o.length+1:Nat):Int) - 4>mo
    · rw [if_pos c3] at h ⊢; exact bad _ (show (12:Int)≠0 by decide)
    rw [if_neg c3] at h ⊢
    by_cases c4:(hdF n (o++[x])).1=0∨((o.length+1:Nat):Int)<(hdF n (o++[x])).1
    · rw [if_pos c4] at h ⊢; exact zbh p _ _ _ h
    · rw [if_neg c4] at h ⊢; exact one _ h
theorem zu4 {n:Nat} {mo:Int} (p q:List UInt8):((evO n mo p).2=true→(evO n mo (p++q)).2=true∧(evO n mo (p++q)).1=(evO n mo p).1) ∧
 ((evO n mo p).2=false→∃ a o c,(frO n mo p).2=some (a,o,c)∧evO n mo (p++q)=((evO n mo p).1++(evB n (frs n mo q a o c).1).1,(evB n (frs n mo q a o c).1).2)∧(frO n mo (p++q)).2=(frs n mo q a o c).2):=by
 have h:=zc8 n mo p q 0 [] 0
 unfold evO frO
 generalize hf:frs n mo p 0 [] 0=z at h ⊢
 obtain ⟨l,st⟩:=z
 cases st with
 | none =>
  have hz:(evB n l).2=true:=by
   have:=zbh (n:=n) (mo:=mo) p 0 [] 0 (by rw [hf])
   rw [hf] at this
   exact this
  have h:frs n mo (p++q) 0 [] 0=(l,none):=h
  rw [h]
  exact ⟨fun _=>⟨hz,rfl⟩,fun h=>by rw [hz] at h; cases h⟩
 | some s =>
  obtain ⟨a,o,c⟩:=s
  have h:frs n mo (p++q) 0 [] 0=fcons l (frs n mo q a o c):=h
  rw [h]
  show ((evB n l).2=true→(evB n (l++_)).2=true∧(evB n (l++_)).1=(evB n l).1)∧((evB n l).2=false→∃ a' o' c',some (a,o,c)=some (a',o',c')∧evB n (l++_)=_∧(frs n mo q a o c).2=_)
  rw [zmr]
  refine ⟨fun h => ?_,fun h=>⟨a,o,c,rfl,?_,rfl⟩⟩
  · rw [if_pos h]; exact ⟨h,rfl⟩
  · rw [if_neg (by rw [h]; exact Bool.false_ne_true)]
theorem zk4 {n:Nat} (hn:2000≤n) (mo:Int) {p:List UInt8} (hp:p.length≤100000) :
 (frO n mo p).1.length≤p.length∧(∀ x∈(frO n mo p).1,FrOK p.length x)∧∀ s,(frO n mo p).2=some s→s.1=p.length∧FI s.2.1 s.2.2∧s.2.1.length≤s.1:=by
 obtain ⟨h1,h2,h3⟩:=zg8 hn mo (L:=p.length) (by omega) p 0 [] 0 (.inl rfl) (by simp) (by omega)
 exact ⟨h1,h2,fun s hs=>by have:=h3 s hs; exact ⟨by omega,this.2⟩⟩
end Go.AM
set_option linter.unusedVariables false
set_option linter.unusedSimpArgs false
namespace Go.AM
section
variable {X:Type} {n:Nat}
theorem bsame {α:Type} (c:Bool) (a:α):(bif c then a else a)=a:=by cases c<;>rfl
theorem wlnL {k0:Int→Int→List UInt8→List LnL→List UInt8→Nat→Nat→Option X} (m:Nat) (a b c:Int) (d:List UInt8) (e:List LnL) (f:List UInt8) (g h:Nat):F.zd.L0_line_pieces_1 n k0 (m+1) a b c d e f g h=lnStep n (F.zd.L0_line_pieces_1 n k0 m) k0 a b c d e f g h:=by
 show F.zd.L0_line_pieces_1.step n (F.zd.L0_line_pieces_1 n k0 m) k0 a b c d e f g h=_
 unfold F.zd.L0_line_pieces_1.step lnStep
 simp only [zbg,bsame]
theorem sc8 {kr:List EvL→Int→Nat→Option X} (l m:List EvL) (h:l.length+m.length≤1000000):F.zd.C8 n kr 0 l m l.length=kr (l++m) 0 (l++m).length:=by
 unfold F.zd.C8
 rw [show (!((0:Int)==0))=false from rfl,cond_false,decide_eq_true (by omega),Nat.beq_refl]
 rfl
theorem sc5 {kr krx:List EvL→Int→Nat→Option X} {f mo:Int} (hf:f≠4) (l:List EvL) (hl:l.length≤100000) (fr:Nat) (p:List UInt8) :
 F.zd.C5 n kr krx 0 l f false false mo ((fr+p.length:Nat):Int) (fr:Int) false l.length=kr (l++tailE p fr) 0 (l++tailE p fr).length:=by
 have h8:∀ (m:List EvL),m.length≤1→F.zd.C8 n (fun a b k=>kr a b k) 0 l m l.length=kr (l++m) 0 (l++m).length:=fun m hm=>sc8 l m (by omega)
 unfold F.zd.C5
 rw [show (!((0:Int)==0))=false from rfl,cond_false,cond_false,cond_false,beq_eq_false_iff_ne.2 hf,cond_false,cond_false]
 unfold tailE
 by_cases h:p=[]
 · subst h
   rw [if_pos rfl,show (((fr+([]:List UInt8).length:Nat):Int)==(fr:Int))=true from by simp,cond_true]
   exact h8 [] (by simp)
 · have hp:0<p.length:=List.length_pos_iff.2 h
   rw [if_neg h,beq_eq_false_iff_ne.2 (by omega),cond_false]
   cases decide (IntKind.wrap .i64 (((fr+p.length:Nat):Int) - (fr:Int))>mo)
   · exact h8 [(3,(fr:Int),((fr+p.length:Nat):Int),[],30,(fr:Int))] (by simp)
   · exact h8 [(3,(fr:Int),((fr+p.length:Nat):Int),[],30,(fr:Int))] (by simp)
theorem sc5b {kr krx:List EvL→Int→Nat→Option X} (l:List EvL) (hl:l.length≤100000) (a:Nat) (ha:a≤100000) (o:List UInt8) (ho:o.length≤a) (e g:Bool) (hg:e=false→g=false) (z:Int) (hz:e=false→z=a) :
 F.zd.C5_1 n kr krx 0 l 4 e false z o g l.length=if e=true then kr l 0 l.length else kr (l++tailO a o) 0 (l++tailO a o).length:=by
 have h8:∀ (m:List EvL),m.length≤1→F.zd.C8 n (fun a b k=>kr a b k) 0 l m l.length=kr (l++m) 0 (l++m).length:=fun m hm=>sc8 l m (by omega)
 have h80:=h8 [] (by simp)
 rw [List.append_nil] at h80
 unfold F.zd.C5_1
 rw [show (!((0:Int)==0))=false from rfl,cond_false,cond_false]
 cases e with
 | true=>rw [cond_true,if_pos rfl]; exact h80
 | false =>
  rw [cond_false,show ((4:Int)==4)=true from rfl,cond_true,hg rfl,hz rfl,cond_false,if_neg Bool.false_ne_true]
  unfold tailO
  by_cases h:o=[]
  · subst h
    rw [if_pos rfl,show ((([]:List UInt8).length:Int)==0)=true from rfl,cond_true,List.append_nil]
    exact h80
  · have hp:0<o.length:=List.length_pos_iff.2 h
    rw [if_neg h,beq_eq_false_iff_ne.2 (by omega),cond_false,ze (by omega)]
    exact h8 _ (by simp)
end
def WayT (f mo:Int):Prop:=(f=1∨f=2∨f=3)∧1≤mo∧mo≤8192
def WayB (f mo:Int):Prop:=f=4∧1≤mo∧mo≤1048576
theorem zms {n:Nat} (hn:200000≤n) {f mo:Int} (hw:WayT f mo) {b:List UInt8} (hb:b.length≤10000):F.zd n f mo b=some (whT f mo b,0,()):=by
 obtain ⟨hf,h1,h2⟩:=hw
 have hle:=zhv b
 have hlen:=ze9 mo _ b 0 (Nat.lt_succ_self _)
 have hok:=zk0 mo _ b 0 (Nat.lt_succ_self _) (by omega)
 have hev:=zhw f mo b
 have main:∀ (krx:List EvL→Int→Nat→Option (List EvL×Int×Unit)),f≠4→F.zd.L0_line_pieces_1 n (fun e4 e5 e6 e10 e11 e12 e14=>F.zd.L2_sess_Sess_text_1 n (fun e8 e13=>F.zd.C5 n (fun a b c=>some (a,b,())) krx 0 e8 f false false mo e4 e5 false e13) n e10 (e10.length:Int) 0 f [] 0) n mo 0 0 [] [] b 0 0=some (whT f mo b,0,()):=by
  intro krx h4
  obtain ⟨t',h⟩:=zk1 (F.zd.L0_line_pieces_1 n _) mo h1 (wlnL (k0:=fun e4 e5 e6 e10 e11 e12 e14=>F.zd.L2_sess_Sess_text_1 n (fun e8 e13=>F.zd.C5 n (fun a b c=>some (a,b,())) krx 0 e8 f false false mo e4 e5 false e13) n e10 (e10.length:Int) 0 f [] 0)) n b [] 0 [] 0 (by omega) (by simp; omega) (by simp) (by simp)
  have h0:opn mo []=[]:=by unfold opn; split<;>rfl
  rw [h0] at h
  refine h.trans ?_
  rw [List.nil_append,List.nil_append]
  refine (zte hn f (lnF mo 0 b) (by omega) hok (lnF mo 0 b) 0 n [] rfl (by simp) (by omega)).trans ?_
  rw [List.nil_append]
  have:=sc5 (X:=List EvL×Int×Unit) (n:=n) (kr:=fun a b c=>some (a,b,())) (krx:=krx) (mo:=mo) h4 (evT f mo b) (by omega) (b.length - (curF b).length) (curF b)
  rw [show b.length - (curF b).length+(curF b).length=0+b.length from by omega,show ((b.length - (curF b).length:Nat):Int)=((0+b.length - (curF b).length:Nat):Int) from by omega] at this
  exact this
 unfold F.zd
 rcases hf with rfl | rfl | rfl
 · rw [show ((1:Int)==1)=true from rfl,cond_true,cond_true,zg (by omega),zg (by omega)]
   exact main _ (by decide)
 · rw [show ((2:Int)==1)=false from rfl,show ((2:Int)==2)=true from rfl,cond_false,cond_true,cond_true,zg (by omega),zg (by omega)]
   exact main _ (by decide)
 · rw [show ((3:Int)==1)=false from rfl,show ((3:Int)==2)=false from rfl,show ((3:Int)==3)=true from rfl,cond_false,cond_false,cond_true,zg (by omega),zg (by omega)]
   exact main _ (by decide)
abbrev WhoR:=List EvL×Int×Unit
noncomputable def whE (n:Nat) (z:Int) (o:List UInt8) (g:Bool):Bool→List EvL→Nat→Option WhoR:=fun a l t =>
 bif a then F.zd.C5_1 n (fun a b c=>some (a,b,())) (fun a b c=>some (a,b,())) 0 l 4 a false z [] true t else F.zd.C5_1 n (fun a b c=>some (a,b,())) (fun a b c=>some (a,b,())) 0 l 4 a false z o g t
noncomputable def whK (n:Nat):Int→List UInt8→Int→List FrL→List UInt8→Nat→Nat→Option WhoR:=fun z o _ fl _ _ _ =>
 F.zd.L2_sess_Sess_binary_1 n (whE n z o false) (whE n z o false) n fl (fl.length:Int) 0 false [] 0
noncomputable def whR (n:Nat):Int→List UInt8→Int→Bool→List FrL→List UInt8→Nat→Nat→Nat→Option WhoR:=fun z o _ g fl _ _ _ _ =>
 F.zd.L2_sess_Sess_binary_1 n (whE n z o g) (whE n z o g) n fl (fl.length:Int) 0 false [] 0
theorem zu5 {n:Nat} (hn:200000≤n) {mo:Int} (hw:WayB 4 mo) {b:List UInt8} (hb:b.length≤10000):F.zd n 4 mo b=some (whO n mo b,0,()):=by
 obtain ⟨_,h1,h2⟩:=hw
 obtain ⟨o1,o2,o3⟩:=zk4 (n:=n) (by omega) mo (p:=b) (by omega)
 obtain ⟨e1,e2⟩:=ze5 (n:=n) (by omega) (L:=b.length) (by omega) (by omega) (frO n mo b).1 o2
 have ee:evB n (frO n mo b).1=evO n mo b:=rfl
 rw [ee] at e1 e2
 unfold F.zd
 rw [show ((4:Int)==1)=false from rfl,show ((4:Int)==2)=false from rfl,show ((4:Int)==3)=false from rfl,show ((4:Int)==4)=true from rfl,cond_false,cond_false,cond_false,cond_true,zg (by omega),zg (by omega),zgj n (by omega),za]
 have bin:∀ z o g,F.zd.L2_sess_Sess_binary_1 n (whE n z o g) (whE n z o g) n (frO n mo b).1 ((frO n mo b).1.length:Int) 0 false [] 0=whE n z o g (evO n mo b).2 (evO n mo b).1 (evO n mo b).1.length:=fun z o g=>by
  refine (ztf (by omega) (L:=b.length) (by omega) (by omega) (frO n mo b).1 (by omega) o2 (frO n mo b).1 0 n [] rfl (by simp) (by omega)).trans ?_
  rw [List.nil_append,ee]
  cases (evO n mo b).2<;>rfl
 have yes:∀ z o g,(evO n mo b).2=true→whE n z o g (evO n mo b).2 (evO n mo b).1 (evO n mo b).1.length=some (whO n mo b,0,()):=fun z o g h=>by
  unfold whE whO
  rw [h,cond_true,if_pos rfl,sc5b _ (by omega) 0 (by omega) [] (by simp) true true (by simp) _ (by simp),if_pos rfl]
 have hg:=zbt (k0:=whK n) (kr:=whR n) (n:=n) (by omega) mo n b 0 [] 0 [] (by omega) (.inl rfl) (by simp) (by omega) (by simp; omega)
 show F.zd.L0_chunk_Framer_frames_1 n (whK n) (whR n) n mo ((0:Nat):Int) [] 0 [] b ([]:List UInt8).length ([]:List FrL).length=_
 generalize F.zd.L0_chunk_Framer_frames_1 n (whK n) (whR n) n mo ((0:Nat):Int) [] 0 [] b ([]:List UInt8).length ([]:List FrL).length=r at hg ⊢
 have hg:FrGo (whK n) (whR n) [] (frO n mo b) r:=hg
 cases hs:(frO n mo b).2 with
 | none =>
  unfold FrGo at hg
  rw [hs] at hg
  obtain ⟨z,rfl⟩:=hg
  exact (bin z [] true).trans (yes _ _ _ (zbh b 0 [] 0 hs))
 | some s =>
  obtain ⟨a,o,c⟩:=s
  obtain ⟨p1,p2,p3⟩:=o3 _ hs
  unfold FrGo at hg
  rw [hs] at hg
  rw [hg]
  refine (bin a o false).trans ?_
  cases hz:(evO n mo b).2 with
  | true=>rw [← hz]; exact yes _ _ _ hz
  | false =>
   unfold whE whO
   rw [hz,cond_false,if_neg Bool.false_ne_true,hs,sc5b _ (by omega) a (by show a≤_; dsimp only at p1; omega) o p3 false false (by simp) _ (fun _=>rfl),if_neg Bool.false_ne_true]
end Go.AM
set_option linter.unusedVariables false
set_option linter.unusedSimpArgs false
namespace Go.AM
theorem zs3 {X:Type} {n:Nat} {k0:Int→List UInt8→Int→List FrL→List UInt8→Nat→Nat→Option X} {kr:Int→List UInt8→Int→Bool→List FrL→List UInt8→Nat→Nat→Nat→Option X} {Q:Option X→Prop} (hn:2000≤n) {mo:Int} {m:Nat} {s:List UInt8} {a:Nat} {o:List UInt8} {c:Int} {out:List FrL}
 (h1:s.length<m) (h2:FI o c) (h3:o.length≤a) (h4:a+s.length≤100000) (h5:out.length+s.length≤100000)
 (hk:∀ (a':Nat) o' c',(frs n mo s a o c).2=some (a',o',c')→Q (k0 (a':Int) o' c' (out++(frs n mo s a o c).1) [] o'.length (out++(frs n mo s a o c).1).length))
 (hr:∀ z,(frs n mo s a o c).2=none→Q (kr z [] 0 true (out++(frs n mo s a o c).1) [] 0 (out++(frs n mo s a o c).1).length 0)) :
 Q (F.zd.L0_chunk_Framer_frames_1 n k0 kr m mo (a:Int) o c out s o.length out.length):=by
 have hg:=zbt (k0:=k0) (kr:=kr) hn mo m s a o c out h1 h2 h3 h4 h5
 unfold FrGo at hg
 cases hs:(frs n mo s a o c).2 with
 | none=>rw [hs] at hg; obtain ⟨z,hg⟩:=hg; rw [hg]; exact hr z hs
 | some y=>obtain ⟨a',o',c'⟩:=y; rw [hs] at hg; rw [hg]; exact hk a' o' c' hs
def OpB (n:Nat) (mo:Int) (p:List UInt8) (z:Int) (o:List UInt8) (c:Int) (g:Bool) (t:Nat):Prop:=
 (evO n mo p).2=false→∃ a:Nat,(frO n mo p).2=some (a,o,c)∧z=(a:Int)∧g=false∧t=o.length
theorem apV {X:Type} {l m:List EvL} {r:Option X} (h:l.length+m.length≤1000000):(bif decide ((l.length+m.length)*64≤2 ^ 46)&&decide (0<64∧64≤2 ^ 20) then bif Nat.beq l.length l.length then r else none else none)=r:=by
 rw [decide_eq_true (by omega),Nat.beq_refl]; rfl
end Go.AM
set_option linter.unusedVariables false
set_option linter.unusedSimpArgs false
namespace Go.AM
theorem zk5 (n:Nat) (x:Int×Int×Int×List MetL×Int×Int×Unit) (h:F.zp n x.2.2.2.1 x.2.2.2.1=some true):F.zao n x x=some true:=by
 unfold F.zao
 simp only [beq_self_eq_true,cond_true,h,za]
theorem zu6 (n:Nat) (hn:200000≤n):F.zp n [] []=some true:=zfw n hn [] (by simp) (fun x hx=>by cases hx)
theorem zqj (f:Int) (x:LnL):EvOK (lineEv f x):=by
 unfold lineEv
 split
 · exact zd1
 · rcases ze2 x.2.2.1 f with ⟨p1,p2,p3⟩ | ⟨c,o,hc,h0,h1,hp⟩
   · rw [p1,if_pos rfl]
     have d:∀ y∈[toL (parseT x.2.2.1 f).1],y.2.2.1.length≤1000∧y.2.2.2.2.1.length≤1000:=fun y hy=>by
      rw [List.mem_singleton.1 hy]; exact ⟨Nat.le_trans p2 (by decide),Nat.le_trans p3 (by decide)⟩
     exact ⟨⟨by simp,d⟩,by simp,d⟩
   · rw [hp,if_neg hc]; exact zd1
theorem zvo (f mo:Int) (p:List UInt8):∀ e∈whT f mo p,EvOK e:=fun e he=>by
 rcases List.mem_append.1 he with h | h
 · obtain ⟨x,_,rfl⟩:=List.mem_map.1 h; exact zqj f x
 · unfold tailE at h
   split at h
   · cases h
   · rw [List.mem_singleton.1 h]; exact zd1
theorem zqk {n:Nat} (hn:200000≤n) (k0:Unit→Option Bool) (kr:Bool→Option Bool) (l:List EvL) (hl:l.length≤100000) (h:∀ e∈l,EvOK e):∀ (r:List EvL) (i m:Nat),l.drop i=r→r.length<m→F.zu.L4 n k0 kr m l l (i:Int)=k0 ():=by
 intro r
 induction r with
 | nil =>
  intro i m hi hm
  have:=zz hi
  obtain ⟨m,rfl⟩:∃ q,m=q+1:=⟨m - 1,by omega⟩
  rw [F.zu.L4]
  unfold F.zu.L4.step
  dsimp only
  rw [zg (by omega)]
 | cons x r ih =>
  intro i m hi hm
  obtain ⟨g1,g2,g3⟩:=zx hi
  obtain ⟨m,rfl⟩:∃ q,m=q+1:=⟨m - 1,by omega⟩
  have ho:=zk5 n (x.1,x.2.1,x.2.2.1,x.2.2.2.1,x.2.2.2.2.1,x.2.2.2.2.2,()) (zfw n hn x.2.2.2.1 (h x (List.mem_of_getElem? g2)).2.1 (h x (List.mem_of_getElem? g2)).2.2)
  rw [F.zu.L4]
  unfold F.zu.L4.step
  dsimp only
  rw [zf (by omega),zt,g2,za,za,ho,za,Bool.not_true,cond_false,zi (by omega),ih (i+1) m g3 (by simp at hm; omega)]
theorem zi0 {n:Nat} (hn:200000≤n) {l:List EvL} (hl:l.length≤100000) (h:∀ e∈l,EvOK e):F.zu n l l=some true:=by
 unfold F.zu
 rw [beq_self_eq_true,Bool.not_true,cond_false]
 exact zqk hn _ _ l hl h l 0 n rfl (by omega)
theorem awake22b:F.zd 400000 4 100 [77,0,5]=some ([(2,0,2,[],22,1)],0,()):=by kernel_rfl
theorem awake22:F.zaf 400000=some true:=by
 have h1:=zms (n:=400000) (by omega) (f:=1) (mo:=100) ⟨Or.inl rfl,by decide,by decide⟩ (b:=[97,58,49,124,99,10,98,10,99]) (by decide)
 have e1:whT 1 100 [97,58,49,124,99,10,98,10,99]=[(1,0,6,[([97],1,[(false,1,0)],1000000,[],0)],0,0),(2,6,8,[],11,7),(3,8,9,[],30,8)]:=by kernel_rfl
 rw [e1] at h1
 have g1:=zk5 400000 (2,6,8,[],11,7,()) (zu6 400000 (by omega))
 have t1:([UInt8.ofNat ((97:Int)).toNat,UInt8.ofNat ((58:Int)).toNat,UInt8.ofNat ((49:Int)).toNat,UInt8.ofNat ((124:Int)).toNat,UInt8.ofNat ((99:Int)).toNat,UInt8.ofNat ((10:Int)).toNat,UInt8.ofNat ((98:Int)).toNat,UInt8.ofNat ((10:Int)).toNat,UInt8.ofNat ((99:Int)).toNat]:List UInt8)=[97,58,49,124,99,10,98,10,99]:=by kernel_rfl
 have t2:([UInt8.ofNat ((77:Int)).toNat,UInt8.ofNat ((0:Int)).toNat,UInt8.ofNat ((5:Int)).toNat]:List UInt8)=[77,0,5]:=by kernel_rfl
 unfold F.zaf
 rw [t1,t2,h1,awake22b]
 show (F.zao 400000 (2,6,8,[],11,7,()) (2,6,8,[],11,7,())).bind _=_
 rw [g1]
 rfl
end Go.AM
set_option linter.unusedVariables false
set_option linter.unusedSimpArgs false
namespace Go.AM
theorem tmod40 (x:Int) : -40<x.tmod 40∧x.tmod 40<40:=by
 have h:(x.tmod 40).natAbs<40:=by rw [Int.natAbs_tmod]; exact Nat.mod_lt _ (by decide)
 omega
theorem size40 (x:Int):∃ k:Nat,(IntKind.wrap .i64 (x.tmod 40+40)).tmod 40=(k:Int)∧k<40:=by
 have h:=tmod40 x
 obtain ⟨y,hy⟩:=Int.eq_ofNat_of_zero_le (show 0≤x.tmod 40+40 by omega)
 rw [ze (by omega),hy]
 exact ⟨y % 40,rfl,Nat.mod_lt _ (by decide)⟩
theorem apC {X:Type} {l:List (List UInt8)} {r:Option X} (h:l.length≤100000):(bif decide ((l.length+1)*24≤2 ^ 46)&&decide (0<24∧24≤2 ^ 20) then bif Nat.beq l.length l.length then r else none else none)=r:=by
 rw [decide_eq_true (by omega),Nat.beq_refl]; rfl
theorem zs4 {X:Type} {n:Nat} {k0:List UInt8→List (List UInt8)→Int→Nat→Option X} {Q:Option X→Prop} (b:List UInt8) (hb:b.length≤10000) (z:List Int) (hz:z.length≤1000)
 (hk:∀ (l:List (List UInt8)) (a:Nat),l.flatten=b.take a→a≤b.length→l.length=z.length→Q (k0 b l (a:Int) l.length)) :
 ∀ (r:List Int) (i m:Nat) (l:List (List UInt8)) (a:Nat),z.drop i=r→r.length<m→i≤z.length→l.flatten=b.take a→a≤b.length→l.length=i→Q (F.zw.L4 n k0 m b z l (a:Int) (i:Int) l.length):=by
 intro r
 induction r with
 | nil =>
  intro i m l a hi hm hiz hl ha hll
  have:=zz hi
  obtain ⟨m,rfl⟩:∃ q,m=q+1:=⟨m - 1,by omega⟩
  show Q (F.zw.L4.step n (F.zw.L4 n k0 m) k0 b z l (a:Int) (i:Int) l.length)
  unfold F.zw.L4.step
  rw [zg (by omega)]
  exact hk l a hl ha (by omega)
 | cons x r ih =>
  intro i m l a hi hm hiz hl ha hll
  obtain ⟨g1,g2,g3⟩:=zx hi
  obtain ⟨m,rfl⟩:∃ q,m=q+1:=⟨m - 1,by omega⟩
  obtain ⟨k,hk1,hk2⟩:=size40 x
  show Q (F.zw.L4.step n (F.zw.L4 n k0 m) k0 b z l (a:Int) (i:Int) l.length)
  unfold F.zw.L4.step
  have e1:IntKind.wrap .i64 ((b.length:Int) - (a:Int))=((b.length - a:Nat):Int):=by rw [ze (by omega)]; omega
  have go:∀ j:Nat,a+j≤b.length→Q ((sub b (a:Int) (IntKind.wrap .i64 ((a:Int)+(j:Int)))).bind fun x2=>bif decide ((l.length+1)*24≤2 ^ 46)&&decide (0<24∧24≤2 ^ 20) then bif Nat.beq l.length l.length then F.zw.L4 n k0 m b z (l++[x2]) (IntKind.wrap .i64 ((a:Int)+(j:Int))) (IntKind.wrap .i64 ((i:Int)+1)) (l++[x2]).length else none else none):=fun j hj=>by
   have e2:IntKind.wrap .i64 ((a:Int)+(j:Int))=((a+j:Nat):Int):=by rw [ze (by omega)]; omega
   rw [e2,zp b a (a+j) (by omega) hj,za,apC (by omega),zi (by omega)]
   refine ih (i+1) m (l++[_]) (a+j) g3 (by simp at hm; omega) (by omega) ?_ hj (by simp; omega)
   rw [List.flatten_append,hl,List.flatten_singleton]
   have:=List.take_append_drop a (b.take (a+j))
   rw [List.take_take,Nat.min_eq_left (by omega)] at this
   exact this
  rw [zf (by omega),zt,g2,za,hk1,e1]
  by_cases h:(k:Int)>((b.length - a:Nat):Int)
  · rw [zf h]; exact go (b.length - a) (by omega)
  · rw [zg h]; exact go k (by omega)
theorem zmt {n:Nat} (hn:200000≤n) {b:List UInt8} (hb:b.length≤10000) {z:List Int} (hz:z.length≤1000):∃ l:List (List UInt8),F.zw n b z=some l∧l.flatten=b∧l.length≤1001:=by
 unfold F.zw
 refine zs4 (Q:=fun r=>∃ l:List (List UInt8),r=some l∧l.flatten=b∧l.length≤1001) b hb z hz (fun l a h1 h2 h3 => ?_) z 0 n [] 0 rfl (by omega) (by omega) (by simp) (by omega) rfl
 rw [zaj h2,za,apC (by omega)]
 refine ⟨_,rfl,?_,by simp; omega⟩
 rw [List.flatten_append,h1,List.flatten_singleton,List.take_append_drop]
end Go.AM
set_option linter.unusedVariables false
set_option linter.unusedSimpArgs false
namespace Go.AM
section
variable {X:Type} {n:Nat}
theorem sf31 {kr:Bool→Option X} {kn:Unit→Option X} {c0 at' last f:Int} {l:List EvL} {o:List UInt8} (hs:F.zu n l l=some true) (hf:f≠4) (h1:(o.length:Int)≤c0) (h2:last=at'→o=[]) :
 F.zb.C31 n kr kn c0 l at' l last f false false o=kn ():=by
 unfold F.zb.C31
 rw [hs,za,Bool.not_true,cond_false,cond_false,cond_false,beq_eq_false_iff_ne.2 hf]
 simp only [cond_false]
 rw [zg (by omega),zg (by omega)]
 by_cases h:last=at'
 · rw [h2 h,h,beq_self_eq_true,cond_true]; rfl
 · rw [beq_eq_false_iff_ne.2 h,cond_false]
theorem sf31b {kr:Bool→Option X} {kn:Unit→Option X} {c0 at' last:Int} {l:List EvL} {o:List UInt8} {e:Bool} (hs:F.zu n l l=some true) (h0:0≤c0) (h1:e=false→(o.length:Int)≤c0) (h2:e=false→last=at'→o=[]) :
 F.zb.C31_1 n kr kn c0 l at' l last 4 e false o=kn ():=by
 unfold F.zb.C31_1
 rw [hs,za,Bool.not_true,cond_false,show ((4:Int)==4)=true from rfl]
 cases e with
 | true =>
  simp only [cond_true]
  rw [zg (by omega)]
  cases last==at'<;>rfl
 | false =>
  simp only [cond_false,cond_true]
  have h1:=h1 rfl
  rw [zg (by omega),zg (by omega)]
  by_cases h:last=at'
  · rw [h2 rfl h,h,beq_self_eq_true,cond_true]; rfl
  · rw [beq_eq_false_iff_ne.2 h,cond_false]
theorem sf20 {kr:Bool→Option X} {kn:List EvL→Int→Nat→Option X} {b x p:List UInt8} {c0 f mo g:Int} {cs:List (List UInt8)} {all l tl:List EvL} {i:Nat} {e:Bool} {o:List UInt8}
 (ha:all.length+l.length≤100000) (hx:cs[i]? = some x) (hp:p.length+x.length≤10000) (hb:b.take (p.length+x.length)=p++x) (hbl:p.length+x.length≤b.length)
 (hw:F.zd n f mo (p++x)=some (all++l++tl,0,())) (ht:(tl=[]∧∀ y∈all++l,y.1≠3)∨∃ y:EvL,tl=[y]∧y.1=3)
 (hC:∀ last:Int,(tl≠[]→last = -1)→∀ (k1:Bool→Option X) (k2:Unit→Option X),F.zb.C31 n k1 k2 c0 (all++l) ((p++x).length:Int) (all++l) last g e false o=k2 ()) :
 F.zb.C20 n kr kn b c0 cs all (p.length:Int) (i:Int) l f mo g e false o all.length=kn (all++l) ((p++x).length:Int) (all++l).length:=by
 unfold F.zb.C20
 have ep:IntKind.wrap .i64 ((p.length:Int)+(x.length:Int))=((p++x).length:Int):=by rw [ze (by omega),List.length_append]; omega
 have es:sub b (0:Int) ((p++x).length:Int)=some (p++x):=by
  have:=zp b 0 (p++x).length (by omega) (by rw [List.length_append]; exact hbl)
  rw [List.length_append,hb,List.drop_zero] at this
  rw [List.length_append]
  exact this
 rw [apV (by omega),zt,hx,za,ep,es,za,hw,za]
 dsimp only
 rw [show (!((0:Int)==0))=false from rfl,cond_false]
 rcases ht with ⟨rfl,h3⟩ | ⟨y,rfl,h3⟩
 · rw [List.append_nil]
   generalize hev:all++l=ev at *
   cases hr:ev.reverse with
   | nil =>
    obtain rfl:ev=[]:=by simpa using hr
    rw [show decide (((([]:List EvL).length:Nat):Int)>0)=false from rfl,cond_false]
    exact hC 0 (fun h=>absurd rfl h) _ _
   | cons z r =>
    have e1:ev=r.reverse++[z]:=by rw [← List.reverse_reverse ev,hr,List.reverse_cons]
    have hl:ev.length=r.length+1:=by rw [e1]; simp
    have hle:ev.length≤100000:=by rw [← hev,List.length_append]; exact ha
    have ei:idx ev (IntKind.wrap .i64 ((ev.length:Int) - 1))=some z:=by
     rw [ze (by omega),show (ev.length:Int) - 1=((r.length:Nat):Int) from by omega,zt,e1]
     simp
    rw [zf (by omega),ei,za,za,beq_eq_false_iff_ne.2 (h3 z (by rw [e1]; simp)),cond_false]
    exact hC _ (fun h=>absurd rfl h) _ _
 · generalize hev:all++l=ev at *
   have hle:ev.length≤100000:=by rw [← hev,List.length_append]; exact ha
   have hl:(ev++[y]).length=ev.length+1:=by simp
   have ei:idx (ev++[y]) (IntKind.wrap .i64 (((ev++[y]).length:Int) - 1))=some y:=by
    rw [hl,ze (by omega),show ((ev.length+1:Nat):Int) - 1=((ev.length:Nat):Int) from by omega,zt]
    simp
   have eb:sub (ev++[y]) (0:Int) (IntKind.wrap .i64 (((ev++[y]).length:Int) - 1))=some ev:=by
    rw [hl,ze (by omega),show ((ev.length+1:Nat):Int) - 1=((ev.length:Nat):Int) from by omega]
    have:=zp (ev++[y]) 0 ev.length (by omega) (by omega)
    simpa using this
   rw [zf (by omega),ei,za,za,h3,show ((3:Int)==3)=true from rfl,cond_true,eb,za]
   exact hC (-1) (fun _=>rfl) _ _
theorem sf18 {kr:Bool→Option X} {kn:List EvL→Int→Nat→Option X} {b x p:List UInt8} {c0 f mo g:Int} {cs:List (List UInt8)} {all l tl:List EvL} {i:Nat} {e:Bool} {o:List UInt8} {code:Int} (hc:code=0∨code=28)
 (ha:all.length+l.length≤100000) (hx:cs[i]? = some x) (hp:p.length+x.length≤10000) (hb:b.take (p.length+x.length)=p++x) (hbl:p.length+x.length≤b.length)
 (hw:F.zd n f mo (p++x)=some (all++l++tl,0,())) (ht:(tl=[]∧∀ y∈all++l,y.1≠3)∨∃ y:EvL,tl=[y]∧y.1=3)
 (hC:∀ last:Int,(tl≠[]→last = -1)→∀ (k1:Bool→Option X) (k2:Unit→Option X),F.zb.C31 n k1 k2 c0 (all++l) ((p++x).length:Int) (all++l) last g e false o=k2 ()) :
 F.zb.C18 n kr kn b c0 cs all (p.length:Int) (i:Int) l code f mo g e false o all.length=kn (all++l) ((p++x).length:Int) (all++l).length:=by
 unfold F.zb.C18
 rcases hc with rfl | rfl
 · rw [show (!((0:Int)==0))=false from rfl,cond_false]
   exact sf20 ha hx hp hb hbl hw ht hC
 · rw [show (!((28:Int)==0))=true from rfl,cond_true,show (!((28:Int)==28))=false from rfl,cond_false]
   exact sf20 ha hx hp hb hbl hw ht hC
theorem zql {kr:Bool→Option X} {kn:List EvL→Int→Nat→Option X} {b x p:List UInt8} {c0 f mo g:Int} {cs:List (List UInt8)} {all l tl:List EvL} {i:Nat} {e:Bool} {o:List UInt8}
 (ha:all.length+l.length≤100000) (hx:cs[i]? = some x) (hp:p.length+x.length≤10000) (hb:b.take (p.length+x.length)=p++x) (hbl:p.length+x.length≤b.length)
 (hw:F.zd n f mo (p++x)=some (all++l++tl,0,())) (ht:(tl=[]∧∀ y∈all++l,y.1≠3)∨∃ y:EvL,tl=[y]∧y.1=3)
 (hC:∀ last:Int,(tl≠[]→last = -1)→∀ (k1:Bool→Option X) (k2:Unit→Option X),F.zb.C31_1 n k1 k2 c0 (all++l) ((p++x).length:Int) (all++l) last g e false o=k2 ()) :
 F.zb.C20_1 n kr kn b c0 cs all (p.length:Int) (i:Int) l f mo g e false o all.length=kn (all++l) ((p++x).length:Int) (all++l).length:=by
 unfold F.zb.C20_1
 have ep:IntKind.wrap .i64 ((p.length:Int)+(x.length:Int))=((p++x).length:Int):=by rw [ze (by omega),List.length_append]; omega
 have es:sub b (0:Int) ((p++x).length:Int)=some (p++x):=by
  have:=zp b 0 (p++x).length (by omega) (by rw [List.length_append]; exact hbl)
  rw [List.length_append,hb,List.drop_zero] at this
  rw [List.length_append]
  exact this
 rw [apV (by omega),zt,hx,za,ep,es,za,hw,za]
 dsimp only
 rw [show (!((0:Int)==0))=false from rfl,cond_false]
 rcases ht with ⟨rfl,h3⟩ | ⟨y,rfl,h3⟩
 · rw [List.append_nil]
   generalize hev:all++l=ev at *
   cases hr:ev.reverse with
   | nil =>
    obtain rfl:ev=[]:=by simpa using hr
    rw [show decide (((([]:List EvL).length:Nat):Int)>0)=false from rfl,cond_false]
    exact hC 0 (fun h=>absurd rfl h) _ _
   | cons z r =>
    have e1:ev=r.reverse++[z]:=by rw [← List.reverse_reverse ev,hr,List.reverse_cons]
    have hl:ev.length=r.length+1:=by rw [e1]; simp
    have hle:ev.length≤100000:=by rw [← hev,List.length_append]; exact ha
    have ei:idx ev (IntKind.wrap .i64 ((ev.length:Int) - 1))=some z:=by
     rw [ze (by omega),show (ev.length:Int) - 1=((r.length:Nat):Int) from by omega,zt,e1]
     simp
    rw [zf (by omega),ei,za,za,beq_eq_false_iff_ne.2 (h3 z (by rw [e1]; simp)),cond_false]
    exact hC _ (fun h=>absurd rfl h) _ _
 · generalize hev:all++l=ev at *
   have hle:ev.length≤100000:=by rw [← hev,List.length_append]; exact ha
   have hl:(ev++[y]).length=ev.length+1:=by simp
   have ei:idx (ev++[y]) (IntKind.wrap .i64 (((ev++[y]).length:Int) - 1))=some y:=by
    rw [hl,ze (by omega),show ((ev.length+1:Nat):Int) - 1=((ev.length:Nat):Int) from by omega,zt]
    simp
   have eb:sub (ev++[y]) (0:Int) (IntKind.wrap .i64 (((ev++[y]).length:Int) - 1))=some ev:=by
    rw [hl,ze (by omega),show ((ev.length+1:Nat):Int) - 1=((ev.length:Nat):Int) from by omega]
    have:=zp (ev++[y]) 0 ev.length (by omega) (by omega)
    simpa using this
   rw [zf (by omega),ei,za,za,h3,show ((3:Int)==3)=true from rfl,cond_true,eb,za]
   exact hC (-1) (fun _=>rfl) _ _
theorem zg9 {kr:Bool→Option X} {kn:List EvL→Int→Nat→Option X} {b x p:List UInt8} {c0 f mo g:Int} {cs:List (List UInt8)} {all l tl:List EvL} {i:Nat} {e:Bool} {o:List UInt8} {code:Int} (hc:code=0∨code=28)
 (ha:all.length+l.length≤100000) (hx:cs[i]? = some x) (hp:p.length+x.length≤10000) (hb:b.take (p.length+x.length)=p++x) (hbl:p.length+x.length≤b.length)
 (hw:F.zd n f mo (p++x)=some (all++l++tl,0,())) (ht:(tl=[]∧∀ y∈all++l,y.1≠3)∨∃ y:EvL,tl=[y]∧y.1=3)
 (hC:∀ last:Int,(tl≠[]→last = -1)→∀ (k1:Bool→Option X) (k2:Unit→Option X),F.zb.C31_1 n k1 k2 c0 (all++l) ((p++x).length:Int) (all++l) last g e false o=k2 ()) :
 F.zb.C18_1 n kr kn b c0 cs all (p.length:Int) (i:Int) l code f mo g e false o all.length=kn (all++l) ((p++x).length:Int) (all++l).length:=by
 unfold F.zb.C18_1
 rcases hc with rfl | rfl
 · rw [show (!((0:Int)==0))=false from rfl,cond_false]
   exact zql ha hx hp hb hbl hw ht hC
 · rw [show (!((28:Int)==0))=true from rfl,cond_true,show (!((28:Int)==28))=false from rfl,cond_false]
   exact zql ha hx hp hb hbl hw ht hC
theorem sofL {k0:Int→Int→List UInt8→List LnL→List UInt8→Nat→Nat→Option X} (m:Nat) (a b c:Int) (d:List UInt8) (e:List LnL) (f:List UInt8) (g h:Nat):F.zb.L0_line_pieces_1 n k0 (m+1) a b c d e f g h=lnStep n (F.zb.L0_line_pieces_1 n k0 m) k0 a b c d e f g h:=by
 show F.zb.L0_line_pieces_1.step n (F.zb.L0_line_pieces_1 n k0 m) k0 a b c d e f g h=_
 unfold F.zb.L0_line_pieces_1.step lnStep
 simp only [zbg,bsame]
theorem zs5 (f mo:Int) (p:List UInt8):∀ y∈evT f mo p,y.1≠3:=fun y hy=>by
 obtain ⟨x,_,rfl⟩:=List.mem_map.1 hy
 unfold lineEv
 split
 · exact (by decide:(2:Int)≠3)
 · split
   · exact (by decide:(1:Int)≠3)
   · exact (by decide:(2:Int)≠3)
theorem zk6 (p:List UInt8) (a:Nat):(tailE p a=[]∧p=[])∨∃ y:EvL,tailE p a=[y]∧y.1=3:=by
 unfold tailE
 split
 · exact .inl ⟨rfl,by assumption⟩
 · exact .inr ⟨_,rfl,rfl⟩
theorem zu7 {L:Nat→LnK X} {k0:Int→Int→List UInt8→List LnL→List UInt8→Nat→Nat→Option X} {Q:Option X→Prop} {mo:Int} (hmo:1≤mo) (hL:∀ m a b c d e f g h,L (m+1) a b c d e f g h=lnStep n (L m) k0 a b c d e f g h)
 {m:Nat} {p x:List UInt8} {t:Nat} (hm:x.length<m) (hp:p.length+x.length≤10000)
 (hk:∀ t',Q (k0 ((p++x).length:Int) (((p++x).length - (curF (p++x)).length:Nat):Int) (opn mo (curF (p++x))) (lnF mo (p.length - (curF p).length) (curF p++x)) [] t' (lnF mo (p.length - (curF p).length) (curF p++x)).length)) :
 Q (L m mo (p.length:Int) ((p.length - (curF p).length:Nat):Int) (opn mo (curF p)) [] x t 0):=by
 have hcu:=zhv p
 obtain ⟨_,e2⟩:=zmp 1 mo p x
 obtain ⟨t',h⟩:=zk1 L mo hmo hL m x (curF p) (p.length - (curF p).length) [] t hm (by omega) (zqd p) (by simp)
 have a1:p.length - (curF p).length+(curF p++x).length=(p++x).length:=by rw [List.length_append,List.length_append]; omega
 rw [show p.length - (curF p).length+(curF p).length=p.length from by omega,List.nil_append,a1,← e2] at h
 have h:L m mo (p.length:Int) ((p.length - (curF p).length:Nat):Int) (opn mo (curF p)) [] x t 0=_:=h
 rw [h]
 exact hk t'
theorem zvz {k0:Int→Int→List UInt8→Nat→Option X} {kr:Bool→Int→Int→List UInt8→Nat→Option X} {Q:Option X→Prop} (hn:200000≤n) {f mo:Int} (hw:WayT f mo) (cs:List (List UInt8)) (hc:cs.length≤100000) (q:List UInt8) (hq:q.length≤10000)
 (hk:∀ a b c d,Q (k0 a b c d)) :
 ∀ (r:List (List UInt8)) (i m:Nat) (p op:List UInt8) (t:Nat),op=opn mo (curF p)→cs.drop i=r→r.length<m→p++r.flatten=q →
 Q (F.zb.L15 n k0 kr m q mo cs (evT f mo p) (p.length:Int) (i:Int) f mo f false false mo (p.length:Int) ((p.length - (curF p).length:Nat):Int) op false (evT f mo p).length t):=by
 have hf4:f≠4:=by have:=hw.1; omega
 have hw':=hw
 obtain ⟨hf,h1,h2⟩:=hw
 intro r
 induction r with
 | nil =>
  intro i m p op t hop hi hm hp
  subst hop
  have:=zz hi
  obtain ⟨m,rfl⟩:∃ q,m=q+1:=⟨m - 1,by omega⟩
  show Q (F.zb.L15.step n (F.zb.L15 n k0 kr m) k0 kr _ _ _ _ _ _ _ _ _ _ _ _ _ _ _ _ _ _)
  unfold F.zb.L15.step
  rw [zg (by omega)]
  exact hk _ _ _ _
 | cons x r ih =>
  intro i m p op t hop hi hm hp
  subst hop
  obtain ⟨g1,g2,g3⟩:=zx hi
  obtain ⟨m,rfl⟩:∃ q,m=q+1:=⟨m - 1,by omega⟩
  have hpx:q=p++x++r.flatten:=by rw [← hp]; simp
  have hl:p.length+x.length≤q.length:=by rw [hpx]; simp
  have htk:q.take (p.length+x.length)=p++x:=by
   rw [hpx,← List.length_append,List.take_left]
  have hcu:=zhv p
  obtain ⟨e1,e2⟩:=zmp f mo p x
  have ihx:=fun t=>ih (i+1) m (p++x) _ t rfl g3 (by simp at hm; omega) hpx.symm
  have hl1:=zhw f mo p
  have hl2:=ze9 mo _ (curF p++x) (p.length - (curF p).length) (Nat.lt_succ_self _)
  rw [List.length_append] at hl2
  have hok:=zk0 mo _ (curF p++x) (p.length - (curF p).length) (Nat.lt_succ_self _) (by rw [List.length_append]; omega)
  have hsm:=zi0 (n:=n) hn (l:=evT f mo (p++x)) (by have:=zhw f mo (p++x); rw [List.length_append] at this; omega) (fun y hy=>zvo f mo (p++x) y (List.mem_append.2 (.inl hy)))
  have hC:∀ last:Int,(tailE (curF (p++x)) ((p++x).length - (curF (p++x)).length)≠[]→last = -1)→∀ (k1:Bool→Option X) (k2:Unit→Option X),F.zb.C31 n k1 k2 mo (evT f mo (p++x)) ((p++x).length:Int) (evT f mo (p++x)) last f false false (opn mo (curF (p++x)))=k2 ():=fun last hla k1 k2=>by
   refine sf31 hsm hf4 ?_ fun he => ?_
   · unfold opn
     split
     · simp; omega
     · omega
   · rcases zk6 (curF (p++x)) ((p++x).length - (curF (p++x)).length) with ⟨_,h⟩ | ⟨y,h,_⟩
     · rw [h]; unfold opn; split<;>rfl
     · have:=hla (by rw [h]; simp)
       omega
  have ht:(tailE (curF (p++x)) ((p++x).length - (curF (p++x)).length)=[]∧∀ y∈evT f mo (p++x),y.1≠3)∨∃ y:EvL,tailE (curF (p++x)) ((p++x).length - (curF (p++x)).length)=[y]∧y.1=3:=by
   rcases zk6 (curF (p++x)) ((p++x).length - (curF (p++x)).length) with ⟨h,_⟩ | h
   · exact .inl ⟨h,zs5 f mo (p++x)⟩
   · exact .inr h
  have hwh:F.zd n f mo (p++x)=some (evT f mo (p++x)++tailE (curF (p++x)) ((p++x).length - (curF (p++x)).length),0,()):=zms hn hw' (by rw [List.length_append]; omega)
  rw [e1] at hC ht hwh
  show Q (F.zb.L15.step n (F.zb.L15 n k0 kr m) k0 kr _ _ _ _ _ _ _ _ _ _ _ _ _ _ _ _ _ _)
  unfold F.zb.L15.step
  rw [zf (by omega),zt,g2,za,cond_false,cond_false,cond_false,zi (by omega)]
  refine zu7 h1 sofL (by omega) (by omega) fun t' => ?_
  have ht3:=fun k0=>zte (X:=X) (n:=n) (k0:=k0) (by omega) f (lnF mo (p.length - (curF p).length) (curF p++x)) (by omega) hok (lnF mo (p.length - (curF p).length) (curF p++x)) 0 n [] rfl (by simp) (by omega)
  have ht3:∀ k0,F.zd.L2_sess_Sess_text_1 n k0 n (lnF mo (p.length - (curF p).length) (curF p++x)) ((lnF mo (p.length - (curF p).length) (curF p++x)).length:Int) 0 f [] 0=_:=ht3
  rw [ht3,List.nil_append,cond_false,sf18 (.inl rfl) (by rw [List.length_map]; omega) g2 (by omega) htk hl hwh ht hC,← e1]
  exact ihx t'
theorem zk7:∀ l:List FrL,∀ y∈(evB n l).1,y.1≠3
 | [],y,hy=>by rw [evB] at hy; cases hy
 | x :: l,y,hy=>by
  rw [evB] at hy
  split at hy
  · split at hy
    · rcases List.mem_cons.1 hy with rfl | hy
      · exact (by decide:(1:Int)≠3)
      · exact zk7 l y hy
    · rw [List.mem_singleton.1 hy]; exact (by decide:(2:Int)≠3)
  · rw [List.mem_singleton.1 hy]; exact (by decide:(2:Int)≠3)
theorem zk8 (a:Nat) (o:List UInt8):(tailO a o=[]∧o=[])∨∃ y:EvL,tailO a o=[y]∧y.1=3:=by
 unfold tailO
 split
 · exact .inl ⟨rfl,by assumption⟩
 · exact .inr ⟨_,rfl,rfl⟩
theorem zqm (mo:Int) (p:List UInt8):∃ tl,whO n mo p=(evO n mo p).1++tl∧(((evO n mo p).2=true∧tl=[])∨((evO n mo p).2=false∧∃ a o c,(frO n mo p).2=some (a,o,c)∧tl=tailO a o)):=by
 unfold whO
 cases hz:(evO n mo p).2 with
 | true=>exact ⟨[],by rw [if_pos rfl,List.append_nil],.inl ⟨rfl,rfl⟩⟩
 | false =>
  rw [if_neg Bool.false_ne_true]
  cases hs:(frO n mo p).2 with
  | none =>
   have:=zbh (n:=n) p 0 [] 0 hs
   have:(evO n mo p).2=true:=this
   rw [hz] at this
   cases this
  | some s=>obtain ⟨a,o,c⟩:=s; exact ⟨_,rfl,.inr ⟨rfl,a,o,c,rfl,rfl⟩⟩
theorem zv0 {k0:Bool→Int→List UInt8→Int→Bool→Nat→Option X} {kr:Bool→Bool→Int→List UInt8→Int→Bool→Nat→Option X} {Q:Option X→Prop} (hn:200000≤n) {mo:Int} (hw:WayB 4 mo) (cs:List (List UInt8)) (hc:cs.length≤100000) (q:List UInt8) (hq:q.length≤10000)
 (hk:∀ a b c d e f,Q (k0 a b c d e f)) :
 ∀ (r:List (List UInt8)) (i m:Nat) (p:List UInt8) (z:Int) (o:List UInt8) (c:Int) (g:Bool) (t:Nat),cs.drop i=r→r.length<m→p++r.flatten=q→OpB n mo p z o c g t →
 Q (F.zb.L15_1 n k0 kr m q (mo+10) cs (evO n mo p).1 (p.length:Int) (i:Int) 4 mo 4 (evO n mo p).2 false mo z o c g (evO n mo p).1.length t):=by
 intro r
 induction r with
 | nil =>
  intro i m p z o c g t hi hm hp ho
  have:=zz hi
  obtain ⟨m,rfl⟩:∃ q,m=q+1:=⟨m - 1,by omega⟩
  show Q (F.zb.L15_1.step n (F.zb.L15_1 n k0 kr m) k0 kr _ _ _ _ _ _ _ _ _ _ _ _ _ _ _ _ _ _)
  unfold F.zb.L15_1.step
  rw [zg (by omega)]
  exact hk _ _ _ _ _ _
 | cons x r ih =>
  intro i m p z o c g t hi hm hp ho
  obtain ⟨g1,g2,g3⟩:=zx hi
  obtain ⟨m,rfl⟩:∃ q,m=q+1:=⟨m - 1,by omega⟩
  have hpx:q=p++x++r.flatten:=by rw [← hp]; simp
  have hl:p.length+x.length≤q.length:=by rw [hpx]; simp
  have htk:q.take (p.length+x.length)=p++x:=by
   rw [hpx,← List.length_append,List.take_left]
  have hpl:(p++x).length=p.length+x.length:=List.length_append
  obtain ⟨o1,o2,o3⟩:=zk4 (n:=n) (by omega) mo (p:=p) (by omega)
  obtain ⟨e1,_⟩:=ze5 (n:=n) (by omega) (L:=p.length) (by omega) (by omega) (frO n mo p).1 o2
  have ee:evB n (frO n mo p).1=evO n mo p:=rfl
  rw [ee] at e1
  obtain ⟨w1,w2,w3⟩:=zk4 (n:=n) (by omega) mo (p:=p++x) (by omega)
  obtain ⟨v1,v2⟩:=ze5 (n:=n) (by omega) (L:=(p++x).length) (by omega) (by omega) (frO n mo (p++x)).1 w2
  have ee2:evB n (frO n mo (p++x)).1=evO n mo (p++x):=rfl
  rw [ee2] at v1 v2
  have hsm:=zi0 (n:=n) hn (l:=(evO n mo (p++x)).1) (by omega) v2
  obtain ⟨tl,hwo,htl⟩:=zqm (n:=n) mo (p++x)
  have hwh:F.zd n 4 mo (p++x)=some ((evO n mo (p++x)).1++tl,0,()):=by rw [← hwo]; exact zu5 hn hw (by omega)
  have hkind:∀ y∈(evO n mo (p++x)).1,y.1≠3:=zk7 (frO n mo (p++x)).1
  have ht:(tl=[]∧∀ y∈(evO n mo (p++x)).1,y.1≠3)∨∃ y:EvL,tl=[y]∧y.1=3:=by
   rcases htl with ⟨_,h⟩ | ⟨_,a,o,c,_,h⟩
   · exact .inl ⟨h,hkind⟩
   · rcases zk8 a o with ⟨h2,_⟩ | ⟨y,h2,h3⟩
     · exact .inl ⟨by rw [h,h2],hkind⟩
     · exact .inr ⟨y,by rw [h,h2],h3⟩
  have hC : ∀ (o':List UInt8),((evO n mo (p++x)).2=false→∃ a c,(frO n mo (p++x)).2=some (a,o',c))→∀ last:Int,(tl≠[]→last = -1)→∀ (k1:Bool→Option X) (k2:Unit→Option X),F.zb.C31_1 n k1 k2 (mo+10) (evO n mo (p++x)).1 ((p++x).length:Int) (evO n mo (p++x)).1 last 4 (evO n mo (p++x)).2 false o'=k2 ():=fun o' ho' last hla k1 k2=>by
   have h1:=hw.2.1
   refine sf31b hsm (by omega) (fun hf => ?_) fun hf he => ?_
   · obtain ⟨a,c,h⟩:=ho' hf
     exact zlv (n:=n) (by omega) h1 (p:=p++x) (by omega) h
   · obtain ⟨a,c,h⟩:=ho' hf
     rcases htl with ⟨h2,_⟩ | ⟨_,a2,o2,c2,h3,h4⟩
     · rw [hf] at h2; cases h2
     · rw [h] at h3
       obtain ⟨rfl,rfl,rfl⟩:a=a2∧o'=o2∧c=c2:=by simpa using h3
       rcases zk8 a o' with ⟨_,h5⟩ | ⟨y,h5,_⟩
       · exact h5
       · have:=hla (by rw [h4,h5]; simp)
         omega
  have ihx:=fun z o c g t=>ih (i+1) m (p++x) z o c g t g3 (by simp at hm; omega) hpx.symm
  obtain ⟨a1,a2⟩:=zu4 (n:=n) (mo:=mo) p x
  show Q (F.zb.L15_1.step n (F.zb.L15_1 n k0 kr m) k0 kr _ _ _ _ _ _ _ _ _ _ _ _ _ _ _ _ _ _)
  unfold F.zb.L15_1.step
  rw [zf (by omega),zt,g2,za,zi (by omega)]
  cases hf:(evO n mo p).2 with
  | true =>
   obtain ⟨b1,b2⟩:=a1 hf
   have ihy:=ihx z o c g t (fun h=>by rw [b1] at h; cases h)
   have hC:=hC o (fun h=>by rw [b1] at h; cases h)
   rw [b1,b2] at ihy hC
   rw [b2] at ht hwh
   rw [cond_true,zg9 (l:=[]) (tl:=tl) (.inr rfl) (by simp; omega) g2 (by omega) htk hl (by rw [List.append_nil]; exact hwh) (by rw [List.append_nil]; exact ht) (by rw [List.append_nil]; exact hC),List.append_nil]
   exact ihy
  | false =>
   obtain ⟨a,h1,h2,h3,h4⟩:=ho hf
   obtain ⟨a',o',c',f1,f2,f3⟩:=a2 hf
   rw [h1] at f1
   obtain ⟨rfl,rfl,rfl⟩:a=a'∧o=o'∧c=c':=by simpa using f1
   obtain ⟨p1,p2,p3⟩:=o3 _ h1
   dsimp only at p1 p2 p3
   obtain ⟨q1,q2,q3⟩:=zg8 (n:=n) (by omega) mo (L:=(p++x).length) (by omega) x a o c p2 p3 (by omega)
   obtain ⟨d1,_⟩:=ze5 (n:=n) (by omega) (L:=(p++x).length) (by omega) (by omega) (frs n mo x a o c).1 q2
   subst h2 h3 h4
   rw [cond_false,cond_false,cond_false,zgj n (by omega),za]
   have bin:∀ {k2 k3:Bool→List EvL→Nat→Option X},F.zd.L2_sess_Sess_binary_1 n k2 k3 n ([]++(frs n mo x a o c).1) (([]++(frs n mo x a o c).1).length:Int) 0 false [] 0 =
    bif (evB n (frs n mo x a o c).1).2 then k3 true (evB n (frs n mo x a o c).1).1 (evB n (frs n mo x a o c).1).1.length else k2 false (evB n (frs n mo x a o c).1).1 (evB n (frs n mo x a o c).1).1.length:=fun {k2 k3}=>by
    rw [List.nil_append]
    exact ztf (by omega) (L:=(p++x).length) (by omega) (by omega) (frs n mo x a o c).1 (by omega) q2 (frs n mo x a o c).1 0 n [] rfl (by simp) (by omega)
   refine zs3 (a:=a) (out:=[]) (by omega) (by omega) p2 p3 (by omega) (by simp; omega) (fun a' o' c' hs => ?_) (fun z hs => ?_)
   · rw [bin]
     cases hb:(evB n (frs n mo x a o c).1).2 with
     | true =>
      have ihy:=ihx (a':Int) [] 0 true 0 (fun h=>by rw [f2] at h; dsimp only at h; rw [hb] at h; cases h)
      have hC:=hC [] (fun h=>by rw [f2] at h; dsimp only at h; rw [hb] at h; cases h)
      rw [f2,hb] at ihy hC
      rw [f2] at ht hwh
      rw [cond_true,cond_true,zg9 (.inl rfl) (by omega) g2 (by omega) htk hl hwh ht hC]
      exact ihy
     | false =>
      have ihy:=ihx (a':Int) o' c' false o'.length (fun _=>⟨a',by rw [f3,hs],rfl,rfl,rfl⟩)
      have hC:=hC o' (fun _=>⟨a',c',by rw [f3,hs]⟩)
      rw [f2,hb] at ihy hC
      rw [f2] at ht hwh
      rw [cond_false,cond_false,zg9 (.inl rfl) (by omega) g2 (by omega) htk hl hwh ht hC]
      exact ihy
   · have hb:(evB n (frs n mo x a o c).1).2=true:=zbh x a o c hs
     have ihy:=ihx z [] 0 true 0 (fun h=>by rw [f2] at h; dsimp only at h; rw [hb] at h; cases h)
     have hC:=hC [] (fun h=>by rw [f2] at h; dsimp only at h; rw [hb] at h; cases h)
     rw [f2,hb] at ihy hC
     rw [f2] at ht hwh
     rw [bin,hb,cond_true,cond_true,zg9 (.inl rfl) (by omega) g2 (by omega) htk hl hwh ht hC]
     exact ihy
end
theorem zk9 {n:Nat} (hn:200000≤n) (ha:F.zaf n=some true) {f mo:Int} (hw:WayT f mo) {b:List UInt8} (hb:b.length≤10000) {z:List Int} (hz:z.length≤1000) (k1:Bool→Option Bool) :
 F.zb.C4_1 n (fun y=>some y) k1 b z 0 f mo f false false mo 0 0 [] false 0=some true:=by
 unfold F.zb.C4_1
 rw [show (!((0:Int)==0))=false from rfl,cond_false,beq_eq_false_iff_ne.2 (show f≠4 by have:=hw.1; omega),cond_false]
 unfold F.zb.C11
 obtain ⟨cs,c1,c2,c3⟩:=zmt (n:=n) hn (b:=b) hb (z:=z) hz
 rw [c1,za]
 have h0:opn mo []=[]:=by unfold opn; split<;>rfl
 exact zvz (Q:=fun r=>r=some true) hn hw cs (by omega) b hb (fun _ _ _ _=>by rw [ha]; rfl) cs 0 n [] [] 0 h0.symm rfl (by omega) c2
theorem zvp {n:Nat} (hn:200000≤n) (ha:F.zaf n=some true) {mo:Int} (hw:WayB 4 mo) {b:List UInt8} (hb:b.length≤10000) {z:List Int} (hz:z.length≤1000) (k1:Bool→Option Bool) :
 F.zb.C4_2 n (fun y=>some y) k1 b z 0 4 mo 4 false false mo 0 [] 0 false 0=some true:=by
 unfold F.zb.C4_2
 rw [show (!((0:Int)==0))=false from rfl,cond_false,show ((4:Int)==4)=true from rfl,cond_true,ze (by have:=hw.2; omega)]
 unfold F.zb.C11_1
 obtain ⟨cs,c1,c2,c3⟩:=zmt (n:=n) hn (b:=b) hb (z:=z) hz
 rw [c1,za]
 have hev:evO n mo []=([],false):=by unfold evO frO; rw [frs,evB]
 have:=fun k0 kr hk=>zv0 (k0:=k0) (kr:=kr) (Q:=fun r=>r=some true) hn hw cs (by omega) b hb hk cs 0 n [] 0 [] 0 false 0 rfl (by omega) c2 (fun _=>⟨0,by unfold frO; rw [frs],rfl,rfl,rfl⟩)
 rw [hev] at this
 exact this _ _ fun _ _ _ _ _ _=>by rw [ha]; rfl
theorem zn3 (n:Nat) (hn:400000≤n) (ha:F.zaf n=some true) (b:List UInt8) (w:Int×Int×Unit) (z:List Int):F.zb n b w z=some true:=by
 obtain ⟨f,mo,_⟩:=w
 unfold F.zb
 rw [ha]
 by_cases hb:(b.length:Int)>1500
 · rw [zf hb]; rfl
 rw [zg hb]
 by_cases hz:(z.length:Int)>40
 · rw [zf hz]; rfl
 rw [zg hz]
 dsimp only
 have bad:∀ c:Int,c≠0→F.zb.C4 n (fun y=>some y) c=some true:=fun c hc=>by
  unfold F.zb.C4
  rw [show (!(c==0))=true from by simpa using hc,ha]
  rfl
 have rng:∀ {m:Int} {y:Option Bool},(1≤mo→mo≤m→y=some true)→(bif decide (mo<(1:Int)) then F.zb.C4 n (fun y=>some y) 10 else bif decide (mo>m) then F.zb.C4 n (fun y=>some y) 10 else y)=some true:=fun {m y} h=>by
  by_cases h1:mo<1
  · rw [zf h1]; exact bad _ (by decide)
  · rw [zg h1]
    by_cases h2:mo>m
    · rw [zf h2]; exact bad _ (by decide)
    · rw [zg h2]; exact h (by omega) (by omega)
 by_cases h1:f=1
 · subst h1
   rw [show ((1:Int)==1)=true from rfl,cond_true,cond_true]
   exact rng fun a b=>zk9 (by omega) ha ⟨.inl rfl,a,b⟩ (by omega) (by omega) _
 rw [beq_eq_false_iff_ne.2 h1,cond_false]
 by_cases h2:f=2
 · subst h2
   rw [show ((2:Int)==2)=true from rfl,cond_true,cond_true]
   exact rng fun a b=>zk9 (by omega) ha ⟨.inr (.inl rfl),a,b⟩ (by omega) (by omega) _
 rw [beq_eq_false_iff_ne.2 h2,cond_false]
 by_cases h3:f=3
 · subst h3
   rw [show ((3:Int)==3)=true from rfl,cond_true]
   exact rng fun a b=>zk9 (by omega) ha ⟨.inr (.inr rfl),a,b⟩ (by omega) (by omega) _
 rw [beq_eq_false_iff_ne.2 h3,cond_false]
 by_cases h4:f=4
 · subst h4
   rw [show ((4:Int)==4)=true from rfl,cond_true]
   exact rng fun a b=>zvp (by omega) ha ⟨rfl,a,b⟩ (by omega) (by omega) _
 rw [beq_eq_false_iff_ne.2 h4,cond_false]
 exact bad _ (by decide)
end Go.AM
namespace Go.Proofs.YtfeonbdbigcdcaaGreatDoor.sessSoFar
open Go.ChangeShapes Go.WideShapes Go.ChangeAt Go.RowKit Go.AM
theorem j1:laidOutB Tryz.prog=true:=by kernel_rfl
theorem own:ownKnob Tryz.prog.godebug=none:=by kernel_rfl
theorem goes:LawGoes Tryz.prog SI 4 [(.sl .u8),(.agg [(.int .i64),(.int .i64)]),(.sl (.int .i64))]:=fun x hx w vals hI hr =>
 ok4 _ (x.1,(x.2.1.1,x.2.1.2,()),x.2.2.1,()) true (zn3 400000 (by omega) awake22 x.1 ⟨x.2.1.1,x.2.1.2,()⟩ x.2.2.1) w (AllD w) vals (WOf.of hI) hr (fun b o h=>h)
noncomputable def laidWorld (os:Os):World:=laidOf Tryz.prog os [layTab 4 Rows.laid_math_bits_deBruijn32tab,layTab 5 Rows.laid_math_bits_deBruijn64tab,layTab 1 Rows.laid_internal_strconv_uint64pow10,layTab 3 Rows.laid_unicode_utf8_acceptRanges,layErr 7 398 400 Rows.laid_strconv_ErrRange,layErr 6 398 400 Rows.laid_strconv_ErrSyntax,layTab 2 Rows.laid_unicode_utf8_first]
theorem zs6 (os:Os) (args:Array Value):laidMet Tryz.prog Rows.sessSoFarRow.laid ((laidWorld os).forCall (fun _ _=>0) ⟨#[],args,[]⟩).memory:=
 (LaidIn.of_run [4,5,1,3,7,6,2,(World.holding Tryz.prog os ⟨#[],#[],[]⟩).heap.size,(World.holding Tryz.prog os ⟨#[],#[],[]⟩).heap.size+1] 8 (by kernel_rfl) (by kernel_rfl) (by kernel_rfl) (by kernel_rfl)).met
theorem zlw (os:Os) {H:Type} (enc:TypeId×Value→H) :
 (OpenSpec.ofChange Rows.sessSoFarSpec).preRow enc Tryz.prog Tryz.f4 Rows.sessSoFarRow.domain false Rows.sessSoFarRow.laid ((laidWorld os).forCall (fun _ _=>0) ⟨#[],#[.slice none 0 0,.agg #[.int .i64 0,.int .i64 0],.slice none 0 0],[]⟩).memory #[.slice none 0 0,.agg #[.int .i64 0,.int .i64 0],.slice none 0 0]:=by
 have hw:(DataW.whole enc Tryz.prog ((laidWorld os).forCall (fun _ _=>0) ⟨#[],#[.slice none 0 0,.agg #[.int .i64 0,.int .i64 0],.slice none 0 0],[]⟩).memory Tryz.f4.params.toList Rows.sessSoFarSpec.vars false (#[.slice none 0 0,.agg #[.int .i64 0,.int .i64 0],.slice none 0 0]:Array Value).toList 8).map (fun x=>(x.1,x.2.1)) =
  some ([.nil,.agg [.lit (.int .i64 0),.lit (.int .i64 0)],.nil],[]):=by kernel_rfl
 obtain ⟨⟨x1,x2,x3⟩,hx,hx1⟩:=Option.map_eq_some_iff.1 hw
 simp only [Prod.mk.injEq] at hx1
 obtain ⟨rfl,rfl⟩:=hx1
 exact OpenSpec.preRow_of_cond 8 hx (by kernel_rfl) (fun k hk=>by cases hk) (by kernel_rfl) (zs6 os _)
set_option maxRecDepth 100000 in
theorem lifted (os:Os) (started:os.Started) (H:Type) (enc:TypeId×Value→H) (F:Stop.Interp) :
 ReturnsInHanded {} Tryz.checked os 4 .any ((OpenSpec.ofChange Rows.sessSoFarSpec).preRow enc Tryz.prog Tryz.f4 Rows.sessSoFarRow.domain false Rows.sessSoFarRow.laid) (((OpenSpec.ofChange Rows.sessSoFarSpec).at F).post enc Tryz.prog Tryz.f4 false true false false):=by
 refine returnsInHanded_of_row (C:=Tryz.checked) (s:=OpenSpec.ofChange Rows.sessSoFarSpec) own started (by kernel_rfl) Tryz.func4
  (witness_row_atRef (enc:=enc) (C:=Tryz.checked) false (laidWorld os) #[.slice none 0 0,.agg #[.int .i64 0,.int .i64 0],.slice none 0 0] rfl (by kernel_rfl) (by kernel_rfl) (by kernel_rfl) (zlw os enc)) ?_
 intro W base args ds gs before hval hW _ _ hw hL hO _
 exact zo2 (s:=Rows.sessSoFarSpec) (n:=8) j1 Tryz.func4 (by kernel_rfl) (by decide) (by kernel_rfl) rfl Tryz.underlying4 rfl (fun ds h=>by match ds,h with | [_,_,_],_=>rfl) goes hval hW hw ⟨hL,hO⟩
theorem j2:mapsRowed Tryz.prog=true:=by kernel_rfl
theorem j3:(Rows.sessSoFarRow.inPlace==Tryz.prog.inPlace 4)=true:=by kernel_rfl
theorem j4:(Rows.sessSoFarRow.unfollowed==Tryz.prog.unfollowed 4)=true:=by kernel_rfl
theorem j5:(Rows.sessSoFarRow.recurses==Tryz.prog.recurses 4)=true:=by kernel_rfl
theorem j6:(Rows.sessSoFarRow.named==Tryz.prog.varsNamed 4)=true:=by kernel_rfl
theorem joined:joinedFacts Tryz.prog 4 Tryz.f4 (OpenSpec.ofChange Rows.sessSoFarSpec).bare Rows.sessSoFarRow=true:=by
 simp only [joinedFacts,Bool.and_eq_true]
 repeat' apply And.intro
 · kernel_rfl
 · exact j1
 · exact j2
 · kernel_rfl
 · kernel_rfl
 · kernel_rfl
 · kernel_rfl
 · kernel_rfl
 · kernel_rfl
 · exact j3
 · exact j4
 · exact j5
 · exact j6
 all_goals kernel_rfl
theorem said:Rows.SessSoFarSaid:=
 OpenClaim.holds_of_cond 4 Tryz.f4 rfl rfl rfl rfl rfl rfl rfl ⟨rfl,rfl,rfl,rfl,rfl⟩ rfl rfl rfl rfl rfl (by kernel_rfl) Tryz.func4 joined
  (of_decide_eq_true (by kernel_rfl)) (by unfold Func.isWrapper; first | (rw [if_pos (by decide +kernel)]; kernel_rfl) | (rw [if_neg (by decide +kernel)]; exact ⟨rfl,rfl⟩))
  (fun os started H enc _ F=>by rw [OpenClaim.pre_eq_preRow]; exact lifted os started H enc F)
end Go.Proofs.YtfeonbdbigcdcaaGreatDoor.sessSoFar
