/- Part 6 of a proof by the abstract machine. -/
import Derived.Test.YtfeonbdbigcdcaaGreatDoorQ5
import Derived.KernelRfl
import Derived.Test.YtfeonbdbigcdcaaGreatDoorCards
import Derived.Test.YtfeonbdbigcdcaaGreatDoorTie
import Derived.OpenShut
set_option linter.unusedVariables false
set_option linter.unusedSimpArgs false
namespace Go.AM
theorem zm5 {w:List UInt8} (h:¬ kindOf w=0):w=wordL (kindOf w)∧1≤kindOf w∧kindOf w≤4∧(124:UInt8)∉w:=by
 unfold kindOf at h ⊢
 by_cases h1:w=[99]
 · subst h1; decide
 rw [if_neg h1] at h ⊢
 by_cases h2:w=[103]
 · subst h2; decide
 rw [if_neg h2] at h ⊢
 by_cases h3:w=[109,115]
 · subst h3; decide
 rw [if_neg h3] at h ⊢
 by_cases h4:w=[104]
 · subst h4; decide
 rw [if_neg h4] at h
 exact absurd rfl h
section
variable {X:Type} (kr:KRS X)
theorem zkb {name value word:List UInt8} {d:DecL} (hn:nameOK name=true) (hv:(124:UInt8)∉value) (hp:parseR value=((d.1,d.2.1,d.2.2,()),(0,0,()),())) (hk:¬ kindOf word=0) (hg:¬ (kindOf word=2∧value.head? = some 45))
 {s rest:List UInt8} (hs:s=name++58::(value++124::(word++rest))) (hr:rest=[]∨rest.head? = some 124) :
 nameS kr s (seg 58 s) 1000000 [] 0 (decide (58∈s)) (nextP 58 s 0)=rateS kr s name (kindOf word) [d] 1000000 [] 0 (decide (rest.head? = some 124)) (name.length+1+value.length+1+word.length+(if rest.head? = some 124 then 1 else 0)):=by
 have hnf:=zpc hn
 obtain ⟨hw1,hw2,hw3,hw4⟩:=zm5 hk
 have h58:(58:UInt8)∈s:=by rw [hs]; simp
 have hseg:seg 58 s=name:=by rw [hs]; exact zey hnf _
 have hd0:s.drop 0=name++58::(value++124::(word++rest)):=hs
 obtain ⟨n1,n2⟩:=zeq hd0 hnf
 rw [Nat.zero_add] at n1 n2
 have hm1:(124:UInt8)∈s.drop (name.length+1):=by rw [n2]; simp
 obtain ⟨m1,m2⟩:=zeq n2 hv
 have hsv:seg 124 (s.drop (name.length+1))=value:=by rw [n2]; exact zey hv _
 have hname:(textF 1 name 1 200).1=0:=by unfold nameOK at hn; simpa using hn
 unfold nameS
 rw [hseg,if_neg (fun h=>h hname),decide_eq_true h58,if_neg (by simp),n1,hsv,m1,decide_eq_true hm1]
 unfold valueS
 rw [hp,if_neg (by simp),if_neg (by simp)]
 unfold kindS
 rcases hr with hr | hr
 · subst hr
   rw [List.append_nil] at m2
   have hsw:seg 124 (s.drop (name.length+1+value.length+1))=word:=by rw [m2]; exact zba hw4
   have hm2:¬ (124:UInt8)∈s.drop (name.length+1+value.length+1):=by rw [m2]; exact hw4
   rw [hsw,if_neg hk,if_neg hg,decide_eq_false hm2,zpb m2 hw4]
   rfl
 · obtain ⟨t,ht⟩:∃ t,rest=124::t:=by
    cases rest with
    | nil=>simp at hr
    | cons b t=>exact ⟨t,by simp at hr; rw [hr]⟩
   subst ht
   have hsw:seg 124 (s.drop (name.length+1+value.length+1))=word:=by rw [m2]; exact zey hw4 _
   have hm2:(124:UInt8)∈s.drop (name.length+1+value.length+1):=by rw [m2]; simp
   rw [hsw,if_neg hk,if_neg hg,decide_eq_true hm2,(zeq m2 hw4).1]
   rfl
theorem zt1 {name value word t:List UInt8} {s:List UInt8} (hs:s=name++58::(value++124::(word++124::t))):s.drop (name.length+1+value.length+1+word.length+1)=t∧s.length=name.length+1+value.length+1+word.length+1+t.length:=by
 subst hs
 refine ⟨?_,by simp; omega⟩
 rw [show name.length+1+value.length+1+word.length+1=name.length+(1+(value.length+(1+(word.length+1)))) from by omega,List.drop_append,List.drop_eq_nil_of_le (by omega),List.nil_append]
 rw [show name.length+(1+(value.length+(1+(word.length+1)))) - name.length=(value.length+(1+(word.length+1)))+1 from by omega,List.drop_succ_cons,List.drop_append,List.drop_eq_nil_of_le (by omega),List.nil_append,
  show value.length+(1+(word.length+1)) - value.length=word.length+1+1 from by omega,List.drop_succ_cons,List.drop_append,List.drop_eq_nil_of_le (by omega),List.nil_append,show word.length+1 - word.length=0+1 from by omega,List.drop_succ_cons,List.drop_zero]
end
abbrev OkR (name:List UInt8) (k:Int) (d:DecL) (r:Int):MetR:=((name,k,[d],r,[],0,()),(0,0,()),())
theorem zrw {name value word:List UInt8} {d:DecL} (hn:nameOK name=true) (hv:(124:UInt8)∉value) (hp:parseR value=((d.1,d.2.1,d.2.2,()),(0,0,()),())) (hk:¬ kindOf word=0) (hg:¬ (kindOf word=2∧value.head? = some 45)) :
 sdParse (name++58::(value++124::word))=some (OkR name (kindOf word) d 1000000):=by
 unfold sdParse
 have:=zkb finK hn hv hp hk hg (s:=name++58::(value++124::word)) (rest:=[]) (by rw [List.append_nil]) (Or.inl rfl)
 rw [this]
 rfl
theorem zt2 {name value word:List UInt8} {d:DecL} (hn:nameOK name=true) (hv:(124:UInt8)∉value) (hp:parseR value=((d.1,d.2.1,d.2.2,()),(0,0,()),())) (hk:¬ kindOf word=0) (hg:¬ (kindOf word=2∧value.head? = some 45)) (t:List UInt8) :
 sdParse (name++58::(value++124::(word++124::t)))=some (if ¬ t.head? = some 64 then badM 11 ((name.length+1+value.length+1+word.length+1:Nat):Int)
  else if ¬ (rateR (seg 124 (t.drop 1))).2.1.1=0∨(kindOf word=2∧¬ (rateR (seg 124 (t.drop 1))).1=1000000) then badM 18 ((name.length+1+value.length+1+word.length+1+1:Nat):Int)
  else if 124∈t.drop 1 then badM 11 ((name.length+1+value.length+1+word.length+1+1+(seg 124 (t.drop 1)).length:Nat):Int)
  else OkR name (kindOf word) d (rateR (seg 124 (t.drop 1))).1):=by
 unfold sdParse
 generalize hs:name++58::(value++124::(word++124::t))=s
 have:=zkb finK hn hv hp hk hg (s:=s) (rest:=124::t) hs.symm (Or.inr rfl)
 have hd:=(zt1 hs.symm).1
 rw [this]
 unfold rateS
 have h1:(if (124::t:List UInt8).head? = some 124 then 1 else 0)=1:=rfl
 have h2:decide ((124::t:List UInt8).head? = some 124)=true:=rfl
 have hd1:s.drop (name.length+1+value.length+1+word.length+1+1)=t.drop 1:=by rw [← List.drop_drop,hd]
 rw [h1,h2,if_neg (by simp),hd,hd1]
 repeat' split
 all_goals first | rfl | (exfalso; simp_all)
theorem zkc (s:List UInt8):(∃ c a:Int,sdParse s=some (badM c a)∧c≠0∧0≤a∧a≤s.length) ∨
 (∃ name value word tail d r,s=name++58::(value++124::(word++tail))∧nameOK name=true∧(124:UInt8)∉value∧parseR value=((d.1,d.2.1,d.2.2,()),(0,0,()),())∧¬ kindOf word=0∧¬ (kindOf word=2∧value.head? = some 45) ∧
  (tail=[]∧r=1000000∨∃ rt,tail=124::64::rt∧(rateR rt).2.1.1=0∧(rateR rt).1=r∧(kindOf word=2→r=1000000)∧(124:UInt8)∉rt)∧sdParse s=some (OkR name (kindOf word) d r)):=by
 by_cases hn:nameOK (seg 58 s)=true
 · by_cases h58:(58:UInt8)∈s
   · have hsp:=zby h58
     have hlt:=za2 h58
     generalize hname:seg 58 s=name at *
     generalize ht:s.drop (name.length+1)=t at *
     have htl:t.length+(name.length+1)=s.length:=by rw [← ht]; simp; omega
     have hn0:¬ ¬ (textF 1 name 1 200).1=0:=by unfold nameOK at hn; simpa using hn
     have hq:nextP 58 s 0=name.length+1:=by unfold nextP; rw [List.drop_zero,if_pos h58,hname]; omega
     have e1:sdParse s=valueS finK s name (seg 124 t) (name.length+1) 1000000 [] 0 (decide (124∈t)) (nextP 124 s (name.length+1)):=by
      unfold sdParse nameS
      rw [hname,if_neg hn0,decide_eq_true h58,if_neg (by simp),hq,ht]
     by_cases hv:(parseR (seg 124 t)).2.1.1=0
     · by_cases hb:(124:UInt8)∈t
       · have hsp2:=zby hb
         have hlt2:=za2 hb
         have hfree:=zdn 124 t
         generalize hvalue:seg 124 t=value at *
         generalize ht2:t.drop (value.length+1)=t2 at *
         have hd2:s.drop (name.length+1+value.length+1)=t2:=by rw [Nat.add_assoc (name.length+1),← List.drop_drop,ht,ht2]
         have htl2:t2.length+(value.length+1)=t.length:=by rw [← ht2]; simp; omega
         have hq2:nextP 124 s (name.length+1)=name.length+1+value.length+1:=by unfold nextP; rw [ht,if_pos hb,hvalue]
         have e2:sdParse s=kindS finK s name (seg 124 t2) value (name.length+1:Nat) (name.length+1+value.length+1:Nat) [((parseR value).1.1,(parseR value).1.2.1,(parseR value).1.2.2.1)] 1000000 [] 0 (decide (124∈t2)) (nextP 124 s (name.length+1+value.length+1)):=by
          rw [e1]
          unfold valueS
          rw [if_neg (fun h=>h hv),decide_eq_true hb,if_neg (by simp),hq2,hd2]
         by_cases hk:kindOf (seg 124 t2)=0
         · left
           refine ⟨16,((name.length+1+value.length+1:Nat):Int),?_,by decide,by omega,by omega⟩
           rw [e2]
           unfold kindS
           rw [if_pos hk]; rfl
         by_cases hg:kindOf (seg 124 t2)=2∧value.head? = some 45
         · left
           refine ⟨26,((name.length+1:Nat):Int),?_,by decide,by omega,by omega⟩
           rw [e2]
           unfold kindS
           rw [if_neg hk,if_pos hg]; rfl
         have hat:=zbx hv
         have hp:parseR value=(((((parseR value).1.1,(parseR value).1.2.1,(parseR value).1.2.2.1):DecL).1,(parseR value).1.2.1,(parseR value).1.2.2.1,()),(0,0,()),()):=by
          generalize parseR value=z at hv hat
          obtain ⟨⟨a,b,c,_⟩,⟨x,y,_⟩,_⟩:=z
          simp only at hv hat
          subst hv hat
          rfl
         by_cases hb2:(124:UInt8)∈t2
         · have hsp3:=zby hb2
           generalize hword:seg 124 t2=word at *
           generalize ht3:t2.drop (word.length+1)=t3 at *
           have hlt3:word.length+1+t3.length=t2.length:=by
            have:=congrArg List.length hsp3
            simp at this
            omega
           have hs:s=name++58::(value++124::(word++124::t3)):=by rw [← hsp3,← hsp2,← hsp]
           have L:=zt2 hn hfree hp hk hg t3
           rw [← hs] at L
           by_cases c1:t3.head? = some 64
           · rw [if_neg (fun h=>h c1)] at L
             obtain ⟨t4,ht4⟩:∃ t4,t3=64::t4:=by
              cases t3 with
              | nil=>simp at c1
              | cons b t=>exact ⟨t,by simp at c1; rw [c1]⟩
             subst ht4
             simp only [List.drop_succ_cons,List.drop_zero,List.length_cons] at L hlt3
             by_cases c2:¬ (rateR (seg 124 t4)).2.1.1=0∨(kindOf word=2∧¬ (rateR (seg 124 t4)).1=1000000)
             · rw [if_pos c2] at L
               exact Or.inl ⟨18,_,L,by decide,by omega,by omega⟩
             rw [if_neg c2] at L
             by_cases c3:(124:UInt8)∈t4
             · rw [if_pos c3] at L
               have:=za2 c3
               exact Or.inl ⟨11,_,L,by decide,by omega,by omega⟩
             rw [if_neg c3,zba c3] at L
             rw [zba c3] at c2
             refine Or.inr ⟨name,value,word,124::64::t4,_,_,hs,hn,hfree,hp,hk,hg,Or.inr ⟨t4,rfl,?_,rfl,fun h2 => ?_,c3⟩,L⟩
             · exact Classical.byContradiction fun h=>c2 (Or.inl h)
             · exact Classical.byContradiction fun h=>c2 (Or.inr ⟨h2,h⟩)
           · rw [if_pos c1] at L
             exact Or.inl ⟨11,_,L,by decide,by omega,by omega⟩
         · have hw:seg 124 t2=t2:=zba hb2
           rw [hw] at hk hg
           have hs:s=name++58::(value++124::(t2++[])):=by rw [List.append_nil,← hsp2,← hsp]
           have L:=zrw hn hfree hp hk hg
           have hs':=hs
           rw [List.append_nil] at hs'
           rw [← hs'] at L
           exact Or.inr ⟨name,value,t2,[],_,_,hs,hn,hfree,hp,hk,hg,Or.inl ⟨rfl,rfl⟩,L⟩
       · left
         refine ⟨11,(s.length:Int),?_,by decide,by omega,by omega⟩
         rw [e1]
         unfold valueS
         rw [if_neg (fun h=>h hv),decide_eq_false hb,if_pos rfl]; rfl
     · left
       refine ⟨17,((name.length+1:Nat):Int),?_,by decide,by omega,by omega⟩
       rw [e1]
       unfold valueS
       rw [if_pos hv]; rfl
   · left
     refine ⟨11,(s.length:Int),?_,by decide,by omega,by omega⟩
     unfold sdParse nameS
     have hn0:¬ ¬ (textF 1 (seg 58 s) 1 200).1=0:=by unfold nameOK at hn; simpa using hn
     rw [if_neg hn0,decide_eq_false h58,if_pos rfl]; rfl
 · left
   refine ⟨15,0,?_,by decide,by omega,by omega⟩
   unfold sdParse nameS
   rw [if_pos (fun h=>hn (by unfold nameOK; simp [h]))]; rfl
end Go.AM
set_option linter.unusedVariables false
set_option linter.unusedSimpArgs false
namespace Go.AM
def parseNum (s:List UInt8) (lo hi:Int):NumR:=
 if s=[] then numR 0 13 0 else if 0≤badK isDig 0 s then numR 0 14 (badK isDig 0 s) else if s.head? = some 48∧1<s.length then numR 0 11 0
 else if 9223372036854775808≤val s∨(val s:Int)<lo∨(val s:Int)>hi then numR 0 10 0 else numR (val s) 0 0
theorem zuo (n:Nat) {s:List UInt8} (hd:Digs s) (hn:s≠[]) (hs:s.length≤1000000):O.atoi n s=some (if val s<9223372036854775808 then ((val s:Int),false,()) else (Lib.atoiSat s,true,())):=by
 unfold O.atoi
 have:Nat.ble s.length big47=true:=by rw [Nat.ble_eq]; unfold big47; omega
 rw [this,cond_true,zow hd hn]
 by_cases h:val s<9223372036854775808
 · rw [if_pos h,if_pos h]
 · rw [if_neg h,if_neg h]
theorem zpd (n:Nat) (s:List UInt8) (lo hi:Int) (hs:s.length≤1000000) (hn:s.length<n):F.zay n s lo hi=some (parseNum s lo hi):=by
 unfold F.zay parseNum
 rw [zbf n 4 s _ _ (by omega) hn,za,textF4 s (by omega)]
 by_cases h0:s=[]
 · rw [if_pos h0,if_pos h0]; rfl
 rw [if_neg h0,if_neg h0]
 by_cases h1:0≤badK isDig 0 s
 · rw [if_pos h1,if_pos h1]; rfl
 rw [if_neg h1,if_neg h1]
 have e:(!((0:Int)==0&&(0:Int)==0))=false:=rfl
 simp only [e,cond_false]
 have hd:=zbr h1
 cases s with
 | nil=>exact absurd rfl h0
 | cons b r =>
  have ei:idx (b::r) (0:Int)=some b:=rfl
  rw [ei,za,zuo n hd h0 hs,za]
  have tail:∀ (p:Bool) (A:Option NumR),(bif p then A else A)=A:=by intro p A; cases p<;>rfl
  have core:(bif (if val (b::r)<9223372036854775808 then ((val (b::r):Int),false,()) else (Lib.atoiSat (b::r),true,())).2.1 then (F.zz n 10 0).bind fun y6=>some ((y6.1,(y6.2.1.1,y6.2.1.2.1,()),()))
   else bif decide ((if val (b::r)<9223372036854775808 then ((val (b::r):Int),false,()) else (Lib.atoiSat (b::r),true,())).1<lo) then (F.zz n 10 0).bind fun y6=>some ((y6.1,(y6.2.1.1,y6.2.1.2.1,()),()))
   else bif decide ((if val (b::r)<9223372036854775808 then ((val (b::r):Int),false,()) else (Lib.atoiSat (b::r),true,())).1>hi) then (F.zz n 10 0).bind fun y6=>some ((y6.1,(y6.2.1.1,y6.2.1.2.1,()),()))
   else some (((if val (b::r)<9223372036854775808 then ((val (b::r):Int),false,()) else (Lib.atoiSat (b::r),true,())).1,((0:Int),(0:Int),()),())))
   = some (if 9223372036854775808≤val (b::r)∨(val (b::r):Int)<lo∨(val (b::r):Int)>hi then numR 0 10 0 else numR (val (b::r)) 0 0):=by
   by_cases hv:val (b::r)<9223372036854775808
   · rw [if_pos hv]
     simp only [cond_false]
     by_cases g1:(val (b::r):Int)<lo
     · rw [zf g1,if_pos (Or.inr (Or.inl g1))]; rfl
     · rw [zi g1]
       by_cases g2:(val (b::r):Int)>hi
       · rw [zf g2,if_pos (Or.inr (Or.inr g2))]; rfl
       · rw [zi g2,if_neg (by omega)]; rfl
   · rw [if_neg hv,if_pos (Or.inl (by omega))]; rfl
  by_cases hb:b=48
  · subst hb
    have e2:((((48:UInt8).toNat:Nat):Int)==48)=true:=rfl
    rw [e2,cond_true]
    by_cases hl:1<(48::r).length
    · rw [zf (by omega),if_pos (show (48::r).head? = some 48∧1<(48::r).length from ⟨rfl,hl⟩)]; rfl
    · rw [zi (by omega),if_neg (show ¬ ((48::r).head? = some 48∧1<(48::r).length) from fun h=>hl h.2)]; exact core
  · have e2:((b.toNat:Int)==48)=false:=by
     have:¬ (b.toNat:Int)=48:=fun h=>hb (zj0 (by simp; omega))
     simpa using this
    rw [e2,cond_false,if_neg (show ¬ ((b::r).head? = some 48∧1<(b::r).length) from fun h=>hb (by simpa using h.1))]; exact core
theorem zl1 (n:Nat) (s:List UInt8) (hs:s.length≤1000000) (hn:s.length<n):F.zat n s=some (parseNum s 1 1099511627776):=by
 unfold F.zat
 rw [zpd n s _ _ hs hn,za]
theorem zdo {s:List UInt8} {lo hi:Int} (h:(parseNum s lo hi).2.1.1=0):(parseNum s lo hi).2.1.2.1=0∧(parseNum s lo hi).1=(val s:Int)∧val s<9223372036854775808∧lo≤(val s:Int)∧(val s:Int)≤hi∧Digs s∧Norm s:=by
 unfold parseNum at h ⊢
 by_cases h0:s=[]
 · rw [if_pos h0] at h; cases h
 rw [if_neg h0] at h ⊢
 by_cases h1:0≤badK isDig 0 s
 · rw [if_pos h1] at h; cases h
 rw [if_neg h1] at h ⊢
 by_cases h2:s.head? = some 48∧1<s.length
 · rw [if_pos h2] at h; cases h
 rw [if_neg h2] at h ⊢
 by_cases h3:9223372036854775808≤val s∨(val s:Int)<lo∨(val s:Int)>hi
 · rw [if_pos h3] at h; cases h
 rw [if_neg h3]
 refine ⟨rfl,rfl,by omega,by omega,by omega,zbr h1,h0,fun h => ?_⟩
 have h4:¬ 1<s.length:=fun hl=>h2 ⟨h,hl⟩
 have:0<s.length:=List.length_pos_iff.2 h0
 omega
end Go.AM
set_option linter.unusedVariables false
set_option linter.unusedSimpArgs false
namespace Go.AM
theorem zrx (x y:DecL):((x.1==y.1)&&((x.2.1==y.2.1)&&(x.2.2==y.2.2)))=decide (x=y):=by
 obtain ⟨a,b,c⟩:=x
 obtain ⟨a',b',c'⟩:=y
 by_cases h:((a,b,c):DecL)=(a',b',c')
 · rw [decide_eq_true h]
   simp only [Prod.mk.injEq] at h
   simp [h.1,h.2.1,h.2.2]
 · rw [decide_eq_false h]
   cases h1:(a==a')&&((b==b')&&(c==c')) with
   | false=>rfl
   | true =>
    simp only [Bool.and_eq_true,beq_iff_eq] at h1
    exact absurd (by rw [h1.1,h1.2.1,h1.2.2]) h
theorem zkd (x y:TagL):((x.1==y.1)&&(x.2==y.2))=decide (x=y):=by
 obtain ⟨a,b⟩:=x
 obtain ⟨a',b'⟩:=y
 by_cases h:((a,b):TagL)=(a',b')
 · rw [decide_eq_true h]
   simp only [Prod.mk.injEq] at h
   simp [h.1,h.2]
 · rw [decide_eq_false h]
   cases h1:(a==a')&&(b==b') with
   | false=>rfl
   | true =>
    simp only [Bool.and_eq_true,beq_iff_eq] at h1
    exact absurd (by rw [h1.1,h1.2]) h
theorem zm6 (n:Nat) (X:Type) (k0:List UInt8→Int→List DecL→Int→List TagL→Int→List UInt8→Int→List DecL→Int→List TagL→Int→Option X) (kr:Bool→List UInt8→Int→List DecL→Int→List TagL→Int→List UInt8→Int→List DecL→Int→List TagL→Int→Option X) (nm:List UInt8) (k:Int) (vs:List DecL) (r:Int) (ts:List TagL) (t:Int) (hs:vs.length≤10000):∀ (j i m:Nat),i+j=vs.length→j<m →
 F.zh.L4 n k0 kr m (i:Int) nm k vs r ts t nm k vs r ts t=k0 nm k vs r ts t nm k vs r ts t:=by
 intro j
 induction j with
 | zero =>
  intro i m hi hm
  obtain ⟨m,rfl⟩:∃ q,m=q+1:=⟨m - 1,by omega⟩
  show F.zh.L4.step n (F.zh.L4 n k0 kr m) k0 kr _ _ _ _ _ _ _ _ _ _ _ _ _=_
  unfold F.zh.L4.step
  rw [zi (by omega)]
 | succ j ih =>
  intro i m hi hm
  obtain ⟨m,rfl⟩:∃ q,m=q+1:=⟨m - 1,by omega⟩
  show F.zh.L4.step n (F.zh.L4 n k0 kr m) k0 kr _ _ _ _ _ _ _ _ _ _ _ _ _=_
  unfold F.zh.L4.step
  rw [zf (by omega),zam (by omega:i<vs.length),za,za,zrx,decide_eq_true rfl,Bool.not_true,cond_false,zh (by omega),ih (i+1) m (by omega) (by omega)]
theorem zm7 (n:Nat) (X:Type) (k0:List UInt8→Int→List DecL→Int→List TagL→Int→List UInt8→Int→List DecL→Int→List TagL→Int→Option X) (kr:Bool→List UInt8→Int→List DecL→Int→List TagL→Int→List UInt8→Int→List DecL→Int→List TagL→Int→Option X) (nm:List UInt8) (k:Int) (vs:List DecL) (r:Int) (ts:List TagL) (t:Int) (hs:ts.length≤10000):∀ (j i m:Nat),i+j=ts.length→j<m →
 F.zh.L9 n k0 kr m (i:Int) nm k vs r ts t nm k vs r ts t=k0 nm k vs r ts t nm k vs r ts t:=by
 intro j
 induction j with
 | zero =>
  intro i m hi hm
  obtain ⟨m,rfl⟩:∃ q,m=q+1:=⟨m - 1,by omega⟩
  show F.zh.L9.step n (F.zh.L9 n k0 kr m) k0 kr _ _ _ _ _ _ _ _ _ _ _ _ _=_
  unfold F.zh.L9.step
  rw [zi (by omega)]
 | succ j ih =>
  intro i m hi hm
  obtain ⟨m,rfl⟩:∃ q,m=q+1:=⟨m - 1,by omega⟩
  show F.zh.L9.step n (F.zh.L9 n k0 kr m) k0 kr _ _ _ _ _ _ _ _ _ _ _ _ _=_
  unfold F.zh.L9.step
  rw [zf (by omega),zam (by omega:i<ts.length),za,za,zkd,decide_eq_true rfl,Bool.not_true,cond_false,zh (by omega),ih (i+1) m (by omega) (by omega)]
theorem ziu (n:Nat) (hn:200000≤n) (a:MetD) (h1:a.2.2.1.length≤10000) (h2:a.2.2.2.2.1.length≤10000):F.zh n a a=some true:=by
 obtain ⟨nm,k,vs,r,ts,t,_⟩:=a
 simp only at h1 h2
 unfold F.zh
 simp only [beq_self_eq_true,Bool.not_true,cond_false]
 refine (zm6 n Bool _ _ nm k vs r ts t h1 vs.length 0 n (by omega) (by omega)).trans ?_
 exact zm7 n Bool _ _ nm k vs r ts t h2 ts.length 0 n (by omega) (by omega)
end Go.AM
set_option linter.unusedVariables false
set_option linter.unusedSimpArgs false
namespace Go.AM
theorem zry {s:List UInt8} (h:(parseR s).2.1.1=0):∃ (neg:Bool) (c:Nat) (e:Int),parseR s=((neg,(c:Int),e,()),(0,0,()),())∧c<two64∧(-9223372036854775808≤e∧e≤9223372036854775807)∧checkR neg c e=0:=by
 rcases zk6 s with ⟨h1,_⟩ | h1
 · exact absurd h h1
 · exact h1
end Go.AM
set_option linter.unusedVariables false
set_option linter.unusedSimpArgs false
namespace Go.AM
abbrev timeR (s:List UInt8):NumR:=parseNum s 1 1099511627776
abbrev OkG (name:List UInt8) (d:DecL) (t:Int):MetR:=((name,2,[d],1000000,[],t,()),(0,0,()),())
def timeS (name:List UInt8) (d:DecL) (u:List UInt8) (p:Nat):MetR:=
 if ¬ (timeR (seg 32 u)).2.1.1=0 then badM 20 (p:Int) else if 32∈u then badM 11 ((p+(seg 32 u).length:Nat):Int) else OkG name d (timeR (seg 32 u)).1
def valueG (name:List UInt8) (u:List UInt8) (p:Nat):MetR:=
 if ¬ (parseR (seg 32 u)).2.1.1=0 then badM 17 (p:Int) else if ¬ 32∈u then badM 11 ((p+(seg 32 u).length:Nat):Int)
 else timeS name ((parseR (seg 32 u)).1.1,(parseR (seg 32 u)).1.2.1,(parseR (seg 32 u)).1.2.2.1) (u.drop ((seg 32 u).length+1)) (p+(seg 32 u).length+1)
def grParse (s:List UInt8):MetR:=
 if nameOK (seg 32 s)=false then badM 15 0 else if ¬ 32∈s then badM 11 ((seg 32 s).length:Int) else valueG (seg 32 s) (s.drop ((seg 32 s).length+1)) ((seg 32 s).length+1)
theorem zk7 {s:List UInt8} {lo hi:Int} (h:(parseNum s lo hi).2.1.1=0):(parseNum s lo hi).2.1.2.1=0:=(zdo h).1
theorem zfi {c a:Int} (h:c=0→a=0):(!((c==0)&&(a==0))) = !(c==0):=by
 by_cases hc:c=0
 · rw [hc,h hc]; rfl
 · rw [beq_eq_false_iff_ne.2 hc]; rfl
section
variable {X:Type} (n:Nat) (rec:Int→Int→Bool→List UInt8→Int→List DecL→Int→List TagL→Int→Int→Int→List UInt8→Int→List DecL→Int→List TagL→Int→Int→Int→List UInt8→Nat→Nat→Nat→Nat→Option X)
 (k0 kr:List UInt8→Int→List DecL→Int→List TagL→Int→Int→Int→List UInt8→Int→List DecL→Int→List TagL→Int→Int→Int→List UInt8→Nat→Nat→Nat→Nat→Option X)
 (b0:List UInt8) (b1:Int) (b2:List DecL) (b3:Int) (b4:List TagL) (b5 b6 b7:Int) (nm:List UInt8) (kd:Int) (vs:List DecL) (rt:Int) (ts:List TagL) (tm c a:Int) (s:List UInt8) (i0 i1 i2 i3:Nat)
theorem zuz (p i:Int):F.zi.L2_graphite_cut_1.step n rec k0 kr p i false b0 b1 b2 b3 b4 b5 b6 b7 nm kd vs rt ts tm c a s i0 i1 i2 i3=k0 b0 b1 b2 b3 b4 b5 b6 b7 nm kd vs rt ts tm c a s i0 i1 i2 i3:=rfl
theorem zrz (hn:200000≤n) (p:Nat) (hp:p≤s.length) (hs:s.length≤10000) :
 F.zi.L2_graphite_cut_1.step n rec k0 kr (p:Int) 0 true b0 b1 b2 b3 b4 b5 b6 b7 nm kd vs rt ts tm c a s i0 i1 i2 i3 =
  (if nameOK (seg 32 (s.drop p))=false then kr b0 b1 b2 b3 b4 b5 b6 b7 (seg 32 (s.drop p)) kd vs rt ts tm 15 (p:Int) s i0 i1 i2 i3
  else if ¬ 32∈s.drop p then kr b0 b1 b2 b3 b4 b5 b6 b7 (seg 32 (s.drop p)) kd vs rt ts tm 11 ((p+(seg 32 (s.drop p)).length:Nat):Int) s i0 i1 i2 i3
  else rec ((p+(seg 32 (s.drop p)).length+1:Nat):Int) 1 true b0 b1 b2 b3 b4 b5 b6 b7 (seg 32 (s.drop p)) kd vs rt ts tm c a s i0 i1 i2 i3):=by
 unfold F.zi.L2_graphite_cut_1.step
 have hl:=zad 32 (s.drop p)
 simp only [List.length_drop] at hl
 rw [cond_true,zaz hp,za,zbm n 32 (by simp; omega),za]
 simp only [beq_self_eq_true,cond_true]
 rw [zbf n 1 _ 1 200 (by omega) (by omega),za,zdm]
 have e1:((textF 1 (seg 32 (s.drop p)) 1 200).1==0)=nameOK (seg 32 (s.drop p)):=rfl
 have w1:IntKind.wrap .i64 ((p:Int)+((seg 32 (s.drop p)).length:Int))=((p+(seg 32 (s.drop p)).length:Nat):Int):=by rw [ze (by omega)]; omega
 have w2:IntKind.wrap .i64 ((p:Int)+(IntKind.wrap .i64 (((seg 32 (s.drop p)).length:Int)+(1:Int))))=((p+(seg 32 (s.drop p)).length+1:Nat):Int):=by rw [ze (x:=((seg 32 (s.drop p)).length:Int)+1) (by omega),ze (by omega)]; omega
 have w3:IntKind.wrap .i64 ((0:Int)+1)=1:=rfl
 rw [e1,w1,w2,w3]
 cases nameOK (seg 32 (s.drop p))
 · rfl
 · have d2:decide ((0:Int)<2)=true:=rfl
   rw [Bool.not_true,cond_false,if_neg (by simp),d2]
   by_cases hm:32∈s.drop p
   · rw [decide_eq_true hm,if_neg (fun h=>h hm)]; rfl
   · rw [decide_eq_false hm,if_pos hm]; rfl
theorem zr0 (hn:200000≤n) (p:Nat) (hp:p≤s.length) (hs:s.length≤10000) :
 F.zi.L2_graphite_cut_1.step n rec k0 kr (p:Int) 1 true b0 b1 b2 b3 b4 b5 b6 b7 nm kd vs rt ts tm c a s i0 i1 i2 i3 =
  (if ¬ (parseR (seg 32 (s.drop p))).2.1.1=0 then kr b0 b1 b2 b3 b4 b5 b6 b7 nm kd vs rt ts tm 17 (p:Int) s i0 i1 i2 i3
  else if ¬ 32∈s.drop p then kr b0 b1 b2 b3 b4 b5 b6 b7 nm kd [((parseR (seg 32 (s.drop p))).1.1,(parseR (seg 32 (s.drop p))).1.2.1,(parseR (seg 32 (s.drop p))).1.2.2.1)] rt ts tm 11 ((p+(seg 32 (s.drop p)).length:Nat):Int) s i0 i1 1 i3
  else rec ((p+(seg 32 (s.drop p)).length+1:Nat):Int) 2 true b0 b1 b2 b3 b4 b5 b6 b7 nm kd [((parseR (seg 32 (s.drop p))).1.1,(parseR (seg 32 (s.drop p))).1.2.1,(parseR (seg 32 (s.drop p))).1.2.2.1)] rt ts tm c a s i0 i1 1 i3):=by
 unfold F.zi.L2_graphite_cut_1.step
 have hl:=zad 32 (s.drop p)
 simp only [List.length_drop] at hl
 rw [cond_true,zaz hp,za,zbm n 32 (by simp; omega),za]
 have g1:((1:Int)==0)=false:=rfl
 simp only [beq_self_eq_true,cond_true,g1,cond_false]
 have w1:IntKind.wrap .i64 ((p:Int)+((seg 32 (s.drop p)).length:Int))=((p+(seg 32 (s.drop p)).length:Nat):Int):=by rw [ze (by omega)]; omega
 have w2:IntKind.wrap .i64 ((p:Int)+(IntKind.wrap .i64 (((seg 32 (s.drop p)).length:Int)+(1:Int))))=((p+(seg 32 (s.drop p)).length+1:Nat):Int):=by rw [ze (x:=((seg 32 (s.drop p)).length:Int)+1) (by omega),ze (by omega)]; omega
 have w3:IntKind.wrap .i64 ((1:Int)+1)=2:=rfl
 rw [zcp n hn _ (by omega),za,zfi (fun h=>zbx h),w1,w2,w3]
 by_cases h0:(parseR (seg 32 (s.drop p))).2.1.1=0
 · have e0:((parseR (seg 32 (s.drop p))).2.1.1==0)=true:=by simp [h0]
   have d2:decide ((1:Int)<2)=true:=rfl
   rw [e0,Bool.not_true,cond_false,if_neg (fun h=>h h0),d2]
   by_cases hm:32∈s.drop p
   · rw [decide_eq_true hm,if_neg (fun h=>h hm)]; rfl
   · rw [decide_eq_false hm,if_pos hm]; rfl
 · have e0:((parseR (seg 32 (s.drop p))).2.1.1==0)=false:=by simpa using h0
   rw [e0,if_pos h0]; rfl
theorem zr1 (hn:200000≤n) (p:Nat) (hp:p≤s.length) (hs:s.length≤10000) :
 F.zi.L2_graphite_cut_1.step n rec k0 kr (p:Int) 2 true b0 b1 b2 b3 b4 b5 b6 b7 nm kd vs rt ts tm c a s i0 i1 i2 i3 =
  (if ¬ (timeR (seg 32 (s.drop p))).2.1.1=0 then kr b0 b1 b2 b3 b4 b5 b6 b7 nm kd vs rt ts tm 20 (p:Int) s i0 i1 i2 i3
  else if 32∈s.drop p then kr b0 b1 b2 b3 b4 b5 b6 b7 nm kd vs rt ts (timeR (seg 32 (s.drop p))).1 11 ((p+(seg 32 (s.drop p)).length:Nat):Int) s i0 i1 i2 i3
  else rec ((p+(seg 32 (s.drop p)).length+1:Nat):Int) 3 false b0 b1 b2 b3 b4 b5 b6 b7 nm kd vs rt ts (timeR (seg 32 (s.drop p))).1 c a s i0 i1 i2 i3):=by
 unfold F.zi.L2_graphite_cut_1.step
 have hl:=zad 32 (s.drop p)
 simp only [List.length_drop] at hl
 rw [cond_true,zaz hp,za,zbm n 32 (by simp; omega),za]
 have g1:((2:Int)==0)=false:=rfl
 have g2:((2:Int)==1)=false:=rfl
 simp only [g1,g2,cond_false]
 have w1:IntKind.wrap .i64 ((p:Int)+((seg 32 (s.drop p)).length:Int))=((p+(seg 32 (s.drop p)).length:Nat):Int):=by rw [ze (by omega)]; omega
 have w2:IntKind.wrap .i64 ((p:Int)+(IntKind.wrap .i64 (((seg 32 (s.drop p)).length:Int)+(1:Int))))=((p+(seg 32 (s.drop p)).length+1:Nat):Int):=by rw [ze (x:=((seg 32 (s.drop p)).length:Int)+1) (by omega),ze (by omega)]; omega
 have w3:IntKind.wrap .i64 ((2:Int)+1)=3:=rfl
 rw [zl1 n _ (by omega) (by omega),za,zfi (fun h=>zk7 h),w1,w2,w3]
 by_cases h0:(timeR (seg 32 (s.drop p))).2.1.1=0
 · have e0:((timeR (seg 32 (s.drop p))).2.1.1==0)=true:=by simp [h0]
   have d2:decide ((2:Int)<2)=false:=rfl
   rw [e0,Bool.not_true,cond_false,if_neg (fun h=>h h0),d2]
   by_cases hm:32∈s.drop p
   · rw [decide_eq_true hm,if_pos hm]; rfl
   · rw [decide_eq_false hm,if_neg hm]; rfl
 · have e0:((timeR (seg 32 (s.drop p))).2.1.1==0)=false:=by simpa using h0
   rw [e0,if_pos h0]; rfl
end
theorem zm8 (n:Nat) (hn:200000≤n) (s:List UInt8) (hs:s.length≤10000):F.zi n s=some (grParse s):=by
 unfold F.zi
 generalize hk0:(fun (e6_b0_0:List UInt8) (e6_b0_1:Int) (e6_b0_2:List DecL) (e6_b0_3:Int) (e6_b0_4:List TagL) (e6_b0_5 e6_b1_0 e6_b1_1:Int) (e6_b2_0:List UInt8) (e6_b2_1:Int) (e6_b2_2:List DecL) (e6_b2_3:Int) (e6_b2_4:List TagL) (e6_b2_5 e6_b3_0 e6_b3_1:Int) (e6_b4_0:List UInt8) (e6_k0 e6_k1 e6_k2 e6_k3:Nat) =>
  bif !((e6_b3_0==(0:Int))&&(e6_b3_1==(0:Int))) then
   some (((([],(0:Int),[],(0:Int),[],(0:Int),()),(e6_b3_0,e6_b3_1,()),()):MetR))
  else
   some (((e6_b2_0,e6_b2_1,e6_b2_2,e6_b2_3,e6_b2_4,e6_b2_5,()),(e6_b3_0,e6_b3_1,()),())))=k0
 have hbad:∀ (b0:List UInt8) (b1:Int) (b2:List DecL) (b3:Int) (b4:List TagL) (b5 b6 b7:Int) (nm:List UInt8) (kd:Int) (vs:List DecL) (rt:Int) (ts:List TagL) (tm c a:Int) (s:List UInt8) (i0 i1 i2 i3:Nat),¬ c=0→k0 b0 b1 b2 b3 b4 b5 b6 b7 nm kd vs rt ts tm c a s i0 i1 i2 i3=some (badM c a):=by
  intro b0 b1 b2 b3 b4 b5 b6 b7 nm kd vs rt ts tm c a s i0 i1 i2 i3 hc
  rw [← hk0]
  simp only
  rw [beq_eq_false_iff_ne.2 hc]; rfl
 have hok:∀ (b0:List UInt8) (b1:Int) (b2:List DecL) (b3:Int) (b4:List TagL) (b5 b6 b7:Int) (nm:List UInt8) (kd:Int) (vs:List DecL) (rt:Int) (ts:List TagL) (tm:Int) (s:List UInt8) (i0 i1 i2 i3:Nat),k0 b0 b1 b2 b3 b4 b5 b6 b7 nm kd vs rt ts tm 0 0 s i0 i1 i2 i3=some ((nm,kd,vs,rt,ts,tm,()),(0,0,()),()):=by
  intro b0 b1 b2 b3 b4 b5 b6 b7 nm kd vs rt ts tm s i0 i1 i2 i3
  rw [← hk0]; rfl
 obtain ⟨q,hq⟩:∃ q,n=q+1+1+1+1:=⟨n - 4,by omega⟩
 have st:∀ m p i b b0 b1 b2 b3 b4 b5 b6 b7 nm kd vs rt ts tm c a s i0 i1 i2 i3,F.zi.L2_graphite_cut_1 n k0 k0 (m+1) p i b b0 b1 b2 b3 b4 b5 b6 b7 nm kd vs rt ts tm c a s i0 i1 i2 i3=F.zi.L2_graphite_cut_1.step n (F.zi.L2_graphite_cut_1 n k0 k0 m) k0 k0 p i b b0 b1 b2 b3 b4 b5 b6 b7 nm kd vs rt ts tm c a s i0 i1 i2 i3:=fun _ _ _ _ _ _ _ _ _ _ _ _ _ _ _ _ _ _ _ _ _ _ _ _ _=>rfl
 have key:F.zi.L2_graphite_cut_1 n k0 k0 (q+1+1+1+1) 0 0 true [] 0 [] 0 [] 0 0 0 [] 2 [] 1000000 [] 0 0 0 s 0 0 0 0=some (grParse s):=by
  have hl:=zad 32 s
  have r0:=zrz n (F.zi.L2_graphite_cut_1 n k0 k0 (q+1+1+1)) k0 k0 [] 0 [] 0 [] 0 0 0 [] 2 [] 1000000 [] 0 0 0 s 0 0 0 0 hn 0 (by omega) hs
  rw [st]
  refine r0.trans ?_
  rw [List.drop_zero,Nat.zero_add]
  unfold grParse
  by_cases h1:nameOK (seg 32 s)=false
  · rw [if_pos h1,if_pos h1]; exact hbad _ _ _ _ _ _ _ _ _ _ _ _ _ _ _ _ _ _ _ _ _ (by decide)
  rw [if_neg h1,if_neg h1]
  by_cases h2:¬ 32∈s
  · rw [if_pos h2,if_pos h2]; exact hbad _ _ _ _ _ _ _ _ _ _ _ _ _ _ _ _ _ _ _ _ _ (by decide)
  rw [if_neg h2,if_neg h2]
  have hlt:=za2 (Classical.not_not.1 h2)
  generalize hA:(seg 32 s).length=A at *
  have hl2:=zad 32 (s.drop (A+1))
  simp only [List.length_drop] at hl2
  rw [st,zr0 n _ k0 k0 _ _ _ _ _ _ _ _ _ _ _ _ _ _ _ _ s _ _ _ _ hn (A+1) (by omega) hs]
  unfold valueG
  by_cases h3:¬ (parseR (seg 32 (s.drop (A+1)))).2.1.1=0
  · rw [if_pos h3,if_pos h3]; exact hbad _ _ _ _ _ _ _ _ _ _ _ _ _ _ _ _ _ _ _ _ _ (by decide)
  rw [if_neg h3,if_neg h3]
  by_cases h4:¬ 32∈s.drop (A+1)
  · rw [if_pos h4,if_pos h4]; exact hbad _ _ _ _ _ _ _ _ _ _ _ _ _ _ _ _ _ _ _ _ _ (by decide)
  rw [if_neg h4,if_neg h4]
  have hlt2:=za2 (Classical.not_not.1 h4)
  simp only [List.length_drop] at hlt2
  have hd2:(s.drop (A+1)).drop ((seg 32 (s.drop (A+1))).length+1)=s.drop (A+1+(seg 32 (s.drop (A+1))).length+1):=by rw [List.drop_drop]; rfl
  rw [hd2]
  generalize hB:A+1+(seg 32 (s.drop (A+1))).length=B at *
  rw [st,zr1 n _ k0 k0 _ _ _ _ _ _ _ _ _ _ _ _ _ _ _ _ s _ _ _ _ hn (B+1) (by omega) hs]
  unfold timeS
  by_cases h5:¬ (timeR (seg 32 (s.drop (B+1)))).2.1.1=0
  · rw [if_pos h5,if_pos h5]; exact hbad _ _ _ _ _ _ _ _ _ _ _ _ _ _ _ _ _ _ _ _ _ (by decide)
  rw [if_neg h5,if_neg h5]
  by_cases h6:32∈s.drop (B+1)
  · rw [if_pos h6,if_pos h6]; exact hbad _ _ _ _ _ _ _ _ _ _ _ _ _ _ _ _ _ _ _ _ _ (by decide)
  rw [if_neg h6,if_neg h6,st,zuz]
  exact hok _ _ _ _ _ _ _ _ _ _ _ _ _ _ _ _ _ _ _
 rw [← hq] at key
 exact key
end Go.AM
set_option linter.unusedVariables false
set_option linter.unusedSimpArgs false
namespace Go.AM
theorem zr2 (s:List UInt8):(∃ c a:Int,grParse s=badM c a∧c≠0∧0≤a∧a≤s.length) ∨
 (∃ name value time d,s=name++32::(value++32::time)∧nameOK name=true∧(32:UInt8)∉name∧(32:UInt8)∉value∧(32:UInt8)∉time∧parseR value=((d.1,d.2.1,d.2.2,()),(0,0,()),())∧(timeR time).2.1.1=0∧grParse s=OkG name d (timeR time).1):=by
 unfold grParse
 have hl:=zad 32 s
 by_cases h1:nameOK (seg 32 s)=false
 · rw [if_pos h1]
   exact Or.inl ⟨15,0,rfl,by decide,by omega,by omega⟩
 rw [if_neg h1]
 by_cases h2:¬ 32∈s
 · rw [if_pos h2]
   exact Or.inl ⟨11,_,rfl,by decide,by omega,by omega⟩
 rw [if_neg h2]
 have h2':=Classical.not_not.1 h2
 have hsp:=zby h2'
 have hfr:=zdn 32 s
 have hlen:=congrArg List.length hsp
 simp only [List.length_append,List.length_cons] at hlen
 generalize seg 32 s=name at *
 generalize s.drop (name.length+1)=t at *
 unfold valueG
 have hl2:=zad 32 t
 by_cases h3:¬ (parseR (seg 32 t)).2.1.1=0
 · rw [if_pos h3]
   exact Or.inl ⟨17,_,rfl,by decide,by omega,by omega⟩
 rw [if_neg h3]
 by_cases h4:¬ 32∈t
 · rw [if_pos h4]
   exact Or.inl ⟨11,_,rfl,by decide,by omega,by omega⟩
 rw [if_neg h4]
 have h4':=Classical.not_not.1 h4
 have hsp2:=zby h4'
 have hfr2:=zdn 32 t
 have hlen2:=congrArg List.length hsp2
 simp only [List.length_append,List.length_cons] at hlen2
 generalize seg 32 t=value at *
 generalize t.drop (value.length+1)=u at *
 unfold timeS
 have hl3:=zad 32 u
 by_cases h5:¬ (timeR (seg 32 u)).2.1.1=0
 · rw [if_pos h5]
   exact Or.inl ⟨20,_,rfl,by decide,by omega,by omega⟩
 rw [if_neg h5]
 by_cases h6:32∈u
 · rw [if_pos h6]
   exact Or.inl ⟨11,_,rfl,by decide,by omega,by omega⟩
 rw [if_neg h6]
 rw [zba h6] at h5 ⊢
 have h3':=Classical.not_not.1 h3
 have hat:=zbx h3'
 refine Or.inr ⟨name,value,u,((parseR value).1.1,(parseR value).1.2.1,(parseR value).1.2.2.1),by rw [← hsp2,← hsp],by simpa using h1,hfr,hfr2,h6,?_,Classical.not_not.1 h5,rfl⟩
 generalize parseR value=z at h3' hat
 obtain ⟨⟨a,b,c,_⟩,⟨x,y,_⟩,_⟩:=z
 simp only at h3' hat
 subst h3' hat
 rfl
end Go.AM
set_option linter.unusedVariables false
set_option linter.unusedSimpArgs false
namespace Go.AM
def insD (t:TagL):List TagL→List TagL
 | []=>[t]
 | x::r=>if ltT x t then x::insD t r else if x=t then x::r else t::x::r
def normT (l:List TagL):List TagL:=l.foldl (fun o t=>insD t o) []
abbrev StrictT (l:List TagL):Prop:=l.Pairwise fun a b=>ltT a b=true
theorem zf5 (t:TagL):∀ (l:List TagL) (x:TagL),x∈insD t l↔x=t∨x∈l
 | [],x=>by simp [insD]
 | y :: r,x=>by
  unfold insD
  split
  · simp only [List.mem_cons,zf5 t r x]
    constructor
    · rintro (h | h | h)<;>simp [h]
    · rintro (h | h | h)<;>simp [h]
  · split
    · rename_i e
      subst e
      simp only [List.mem_cons]
      constructor
      · rintro (h | h)<;>simp [h]
      · rintro (h | h | h)<;>simp [h]
    · simp only [List.mem_cons]
theorem zfj (t:TagL):∀ (l:List TagL),StrictT l→StrictT (insD t l)
 | [],_=>by simp [insD,StrictT]
 | y :: r,h=>by
  obtain ⟨h1,h2⟩:=List.pairwise_cons.1 h
  unfold insD
  split
  · rename_i hy
    refine List.pairwise_cons.2 ⟨fun x hx => ?_,zfj t r h2⟩
    rcases (zf5 t r x).1 hx with rfl | hx
    · exact hy
    · exact h1 x hx
  · rename_i hy
    split
    · exact h
    · rename_i hne
      have hty:ltT t y=true:=by
       cases hc:ltT t y
       · exact absurd (zci (by simpa using hy) hc) hne
       · rfl
      refine List.pairwise_cons.2 ⟨fun x hx => ?_,h⟩
      rcases List.mem_cons.1 hx with rfl | hx
      · exact hty
      · exact zch hty (h1 x hx)
theorem zdz:∀ (a b:List TagL),StrictT a→StrictT b→(∀ x,x∈a↔x∈b)→a=b
 | [],[],_,_,_=>rfl
 | [],y::b,_,_,h=>by have:=(h y).2 (by simp); cases this
 | x::a,[],_,_,h=>by have:=(h x).1 (by simp); cases this
 | x :: a,y::b,ha,hb,h=>by
  obtain ⟨h1,h2⟩:=List.pairwise_cons.1 ha
  obtain ⟨h3,h4⟩:=List.pairwise_cons.1 hb
  have e:x=y:=by
   rcases List.mem_cons.1 ((h x).1 (by simp)) with e | e
   · exact e
   · rcases List.mem_cons.1 ((h y).2 (by simp)) with e' | e'
     · exact e'.symm
     · have:=zh8 (h1 y e'); rw [h3 x e] at this; cases this
  subst e
  rw [zdz a b h2 h4 (fun z => ?_)]
  have hx:=h z
  simp only [List.mem_cons] at hx
  constructor
  · intro hz
    rcases hx.1 (Or.inr hz) with rfl | h'
    · have:=h1 _ hz; rw [zb3] at this; cases this
    · exact h'
  · intro hz
    rcases hx.2 (Or.inr hz) with rfl | h'
    · have:=h3 _ hz; rw [zb3] at this; cases this
    · exact h'
theorem zdp:∀ (l o:List TagL),StrictT o→StrictT (l.foldl (fun o t=>insD t o) o)∧∀ x,x∈l.foldl (fun o t=>insD t o) o↔x∈o∨x∈l
 | [],o,h=>⟨h,fun x=>by simp⟩
 | t::l,o,h=>by
  obtain ⟨h1,h2⟩:=zdp l (insD t o) (zfj t o h)
  refine ⟨h1,fun x => ?_⟩
  rw [List.foldl_cons,h2 x,zf5,List.mem_cons]
  constructor
  · rintro ((h | h) | h)<;>simp [h]
  · rintro (h | h | h)<;>simp [h]
theorem zer (l:List TagL):StrictT (normT l):=(zdp l [] List.Pairwise.nil).1
theorem zih (l:List TagL) (x:TagL):x∈normT l↔x∈l:=by
 unfold normT; rw [(zdp l [] List.Pairwise.nil).2 x]; simp
theorem zke (t:TagL):∀ l,(insD t l).length≤l.length+1
 | []=>by simp [insD]
 | y::r=>by
  unfold insD
  have:=zke t r
  split
  · simp; omega
  · split<;>simp
theorem zii (l:List TagL):(normT l).length≤l.length:=by
 have:∀ (l o:List TagL),(l.foldl (fun o t=>insD t o) o).length≤o.length+l.length:=by
  intro l
  induction l with
  | nil=>intro o; simp
  | cons t l ih=>intro o; have h1:=ih (insD t o); have h2:=zke t o; simp only [List.foldl_cons,List.length_cons]; omega
 have h:=this l []
 simp only [List.length_nil,Nat.zero_add] at h
 exact h
def dedF (D:List TagL) (t:TagL):List TagL:=if D.getLast? = some t then D else D++[t]
theorem zij : ∀ (s D : List TagL),SortedT s→StrictT D→(∀ a∈D,∀ b∈s,ltT b a=false)→StrictT (s.foldl dedF D)∧∀ x,x∈s.foldl dedF D↔x∈D∨x∈s
 | [],D,_,h,_=>⟨h,fun x=>by simp⟩
 | t :: s, D, hs, hD, hb=>by
  obtain ⟨h1,h2⟩:=List.pairwise_cons.1 hs
  have key : StrictT (dedF D t)∧(∀ x,x∈dedF D t↔x∈D∨x=t):=by
   unfold dedF
   split
   · rename_i e
     have ht:t∈D:=List.mem_of_getLast? e
     exact ⟨hD,fun x=>⟨Or.inl,fun h=>h.elim id (fun e=>e▸ht)⟩⟩
   · rename_i e
     refine ⟨?_,fun x=>by simp⟩
     refine List.pairwise_append.2 ⟨hD,List.pairwise_singleton _ _,fun a ha b hb' => ?_⟩
     rw [List.mem_singleton.1 hb']
     have h0:=hb a ha t (by simp)
     cases hc:ltT a t
     · exfalso
       have:a=t:=zci hc h0
       subst this
       apply e
       have:∀ (D:List TagL),StrictT D→(∀ x∈D,ltT a x=false)→a∈D→D.getLast? = some a:=by
        intro D
        induction D with
        | nil=>intro _ _ h; cases h
        | cons y D ih =>
         intro hp hm hin
         obtain ⟨p1,p2⟩:=List.pairwise_cons.1 hp
         cases D with
         | nil => rcases List.mem_cons.1 hin with rfl | h
                  · rfl
                  · cases h
         | cons z D =>
          rw [List.getLast?_cons_cons]
          refine ih p2 (fun x hx=>hm x (List.mem_cons_of_mem _ hx)) ?_
          rcases List.mem_cons.1 hin with rfl | h
          · have:=p1 z (by simp); rw [hm z (by simp)] at this; cases this
          · exact h
       exact this D hD (fun x hx=>hb x hx a (by simp)) ha
     · rfl
  obtain ⟨k1,k2⟩:=key
  obtain ⟨f1,f2⟩:=zij s (dedF D t) h2 k1 (fun a ha b hb'=>by
   rcases (k2 a).1 ha with ha | rfl
   · exact hb a ha b (List.mem_cons_of_mem _ hb')
   · exact h1 b hb')
  refine ⟨f1,fun x => ?_⟩
  rw [List.foldl_cons,f2 x,k2 x,List.mem_cons]
  constructor
  · rintro ((h | h) | h)<;>simp [h]
  · rintro (h | h | h)<;>simp [h]
theorem zr3 (l:List TagL):(sortTags l).foldl dedF []=normT l:=by
 obtain ⟨h1,h2⟩:=zij (sortTags l) [] (zbl l) List.Pairwise.nil (fun a ha=>by cases ha)
 refine zdz _ _ h1 (zer l) (fun x => ?_)
 rw [h2 x,zih,(za0 l).mem_iff]; simp
theorem zhj {α:Type}:∀ (l:List α) (k:Nat) (x:α),upd l k x=l.set k x
 | [],_,_=>rfl
 | _::l,0,_=>rfl
 | _::l,k+1,x=>by simp [upd,zhj l k x]
end Go.AM
set_option linter.unusedVariables false
set_option linter.unusedSimpArgs false
namespace Go.AM
theorem zkf {α:Type} {L D:List α} {k:Nat} (h:L.take D.length=D) (hk:D.length=k+1):L[k]? = D.getLast?:=by
 rw [List.getLast?_eq_getElem?]
 have:D[D.length - 1]? = (L.take D.length)[D.length - 1]?:=by rw [h]
 rw [this,hk,List.getElem?_take]
 simp
theorem zr4 {α:Type} {L D:List α} (x:α) (h:L.take D.length=D) (hk:D.length<L.length):(L.set D.length x).take (D++[x]).length=D++[x]:=by
 rw [List.length_append,List.length_singleton,List.take_add_one,List.take_set_of_le (Nat.le_refl _),h]
 simp [hk]
theorem zr5 {α:Type} (L:List α) (i k:Nat) (x:α) (h:i≤k):(L.set i x).drop (k+1)=L.drop (k+1):=List.drop_set_of_lt (by omega)
theorem zpe (n:Nat) (X:Type) (k0:(Nat×Nat)→Int→(Nat×List TagL)→(Nat×List TagL)→(Nat×List TagL)→Option X) (v N:Nat) (hN:N≤100000) (b0 b1:Nat×List TagL) :
 ∀ (r D L:List TagL) (i m:Nat),L.drop i=r→i≤N→r.length<m→D.length≤i→(i=0↔D=[])→L.length=N→L.take D.length=D →
 ∃ L',L'.take (r.foldl dedF D).length=r.foldl dedF D∧L'.length=N∧F.zo.L5 n k0 m (v,N) (D.length:Int) (v,N) (N:Int) (i:Int) b0 b1 (v,L)=k0 (v,N) ((r.foldl dedF D).length:Int) b0 b1 (v,L'):=by
 intro r
 induction r with
 | nil =>
  intro D L i m hr hi hm hD h0 hL hT
  obtain ⟨m,rfl⟩:∃ p,m=p+1:=⟨m - 1,by omega⟩
  refine ⟨L,hT,hL,?_⟩
  rw [F.zo.L5]
  unfold F.zo.L5.step
  dsimp only
  rw [zi (by have:=zaw hr; omega)]
  rfl
 | cons x r ih =>
  intro D L i m hr hi hm hD h0 hL hT
  obtain ⟨m,rfl⟩:∃ p,m=p+1:=⟨m - 1,by simp at hm; omega⟩
  obtain ⟨l1,g1,t1⟩:=zan hr
  have hw:IntKind.wrap .i64 ((D.length:Int)+1)=((D.length+1:Nat):Int):=zh (by omega)
  have hput:∃ L',L'.take (r.foldl dedF (D++[x])).length=r.foldl dedF (D++[x])∧L'.length=N∧F.zo.L5 n k0 m (v,N) (((D++[x]).length:Nat):Int) (v,N) (N:Int) ((i+1:Nat):Int) b0 b1 (v,L.set D.length x)=k0 (v,N) ((r.foldl dedF (D++[x])).length:Int) b0 b1 (v,L'):=
   ih (D++[x]) (L.set D.length x) (i+1) m (by rw [zr5 L D.length i x hD]; exact t1) (by omega) (by simp at hm; omega) (by simp; omega) (by simp) (by simpa using hL) (zr4 x hT (by omega))
  rw [F.zo.L5]
  unfold F.zo.L5.step
  dsimp only
  rw [List.foldl_cons]
  have hb1:(decide ((0:Int)≤(i:Int))&&decide ((i:Int)<(N:Int)))=true:=by simp; omega
  have hb2:(decide ((0:Int)≤(D.length:Int))&&decide ((D.length:Int)<(N:Int)))=true:=by simp; omega
  have hbe:Nat.beq v v=true:=Nat.beq_refl v
  rw [zf (by omega:(i:Int)<(N:Int)),hb1,hbe,cond_true,cond_true,za3,g1,za,zh (by omega:i<4611686018427387904)]
  by_cases hi0:i=0
  · have hD0:=h0.1 hi0
    have e0:((i:Int)==0)=true:=by simp [hi0]
    rw [e0,cond_true,hb2,cond_true,cond_true,zam (by omega:D.length<L.length),za,hw,Int.toNat_natCast,zhj]
    have hd:dedF D x=D++[x]:=by rw [hD0]; rfl
    rw [hd]
    obtain ⟨L',q1,q2,q3⟩:=hput
    refine ⟨L',q1,q2,?_⟩
    rw [← q3,List.length_append,List.length_singleton]
  · have e0:((i:Int)==0)=false:=by simpa using hi0
    have hne:D≠[]:=fun h=>hi0 (h0.2 h)
    have hpos:0<D.length:=List.length_pos_iff.2 hne
    have hwp:IntKind.wrap .i64 ((D.length:Int) - 1)=((D.length - 1:Nat):Int):=by rw [ze (by omega)]; omega
    have hb3:(decide ((0:Int)≤((D.length - 1:Nat):Int))&&decide (((D.length - 1:Nat):Int)<(N:Int)))=true:=by simp; omega
    obtain ⟨y,hy⟩:∃ y,D.getLast? = some y:=⟨_,List.getLast?_eq_some_getLast hne⟩
    have gl:L[D.length - 1]? = some y:=by rw [zkf hT (by omega),hy]
    rw [e0,cond_false,hwp,hb3,cond_true,cond_true,za3,gl,za,zkd]
    by_cases hxy:x=y
    · rw [decide_eq_true hxy,Bool.not_true,cond_false]
      have hd:dedF D x=D:=by unfold dedF; rw [hy,hxy,if_pos rfl]
      rw [hd]
      exact ih D L (i+1) m t1 (by omega) (by simp at hm; omega) (by omega) (by simp [hne]) hL hT
    · rw [decide_eq_false hxy,Bool.not_false,cond_true,hb2,cond_true,cond_true,zam (by omega:D.length<L.length),za,hw,Int.toNat_natCast,zhj]
      have hd:dedF D x=D++[x]:=by unfold dedF; rw [hy,if_neg (by simpa using fun h:y=x=>hxy h.symm)]
      rw [hd]
      obtain ⟨L',q1,q2,q3⟩:=hput
      refine ⟨L',q1,q2,?_⟩
      rw [← q3,List.length_append,List.length_singleton]
theorem zt3 (n:Nat) (l:List TagL):F.zk n l=some l:=by
 unfold F.zk
 rw [beq_self_eq_true,cond_true,show (0:Int)=((0:Nat):Int) from rfl,zr l 0 l.length (by omega) (by omega)]
 simp
theorem zf6 (n:Nat) (hn:200000≤n) (l:List TagL) (hl:l.length≤100000) (v:Nat) (b0 b1:Nat×List TagL) :
 F.zo.L5 n (fun (e11_3:Nat×Nat) (e11_4:Int) (e11_b0_0 e11_b1_0 e11_b2_0:Nat×List TagL) =>
  bif Nat.beq e11_3.1 e11_b2_0.1 then
   (sub e11_b2_0.2 (0:Int) e11_4).bind fun x12 =>
    (F.zk n x12).bind fun y13 =>
     some (y13)
  else
   none) n (v,l.length) (0:Int) (v,l.length) (l.length:Int) (0:Int) b0 b1 (v,sortTags l)=some (normT l):=by
 obtain ⟨L', q1,q2,q3⟩:=zpe n _ (fun (e11_3:Nat×Nat) (e11_4:Int) (e11_b0_0 e11_b1_0 e11_b2_0:Nat×List TagL) =>
         bif Nat.beq e11_3.1 e11_b2_0.1 then
          (sub e11_b2_0.2 (0:Int) e11_4).bind fun x12 =>
           (F.zk n x12).bind fun y13 =>
            some (y13)
         else
          none) v l.length hl b0 b1 (sortTags l) [] (sortTags l) 0 n rfl (by omega) (by rw [za5]; omega) (by simp) (by simp) (za5 l) rfl
 refine q3.trans ?_
 rw [zr3] at q1 ⊢
 dsimp only
 rw [Nat.beq_refl,cond_true,show (0:Int)=((0:Nat):Int) from rfl,zr L' 0 _ (by omega) (by rw [q2]; exact zii l),q1]
 simp only [za,List.drop_zero,zt3]
theorem zkg (n:Nat) (hn:200000≤n) (l:List TagL) (hl:l.length≤100000):F.zo n l=some (normT l):=by
 have e1:(decide ((0+l.length)*32≤2 ^ 46)&&decide (0<32∧32≤2 ^ 20))=true:=by
  rw [decide_eq_true (by omega)]; rfl
 have e2:∀ l:List TagL,l.length≤100000→(Nat.beq (sortTags l).length l.length&&Nat.blt l.length strMax)=true:=by
  intro l hl
  rw [za5,Nat.beq_refl,Bool.true_and,zia]
  exact Nat.ble_eq▸(by omega:l.length+1≤4611686018427387904)
 unfold F.zo
 rw [List.nil_append,e1,cond_true,e2 l hl,cond_true]
 cases l with
 | nil =>
  have h1:=zf6 n hn [] (by simp) 1 (1,[]) (1,[])
  have h2:=zf6 n hn [] (by simp) 2 (1,[]) (1,[])
  refine Eq.trans (b:=both (some (normT [])) (some (normT []))) ?_ (znk _)
  rw [List.isEmpty_nil,cond_true]
  congr 1
 | cons t l =>
  exact zf6 n hn (t::l) hl 2 (1,[]) (1,[])
end Go.AM
set_option linter.unusedVariables false
set_option linter.unusedSimpArgs false
namespace Go.AM
def zeroM:MetD:=([],(0:Int),[],(0:Int),[],(0:Int),())
end Go.AM
set_option linter.unusedVariables false
set_option linter.unusedSimpArgs false
namespace Go.AM
def TagS (t:TagL):Prop:=t.1.length≤1000∧t.2.length≤1000
theorem zgt {c:Int} {s:List UInt8} {lo hi:Int} (h:(textF c s lo hi).1=0):lo≤(s.length:Int)∧(s.length:Int)≤hi∧s.all (cls c)=true:=by
 unfold textF at h
 split at h
 · cases h
 · split at h
   · cases h
   · split at h
     · cases h
     · split at h
       · cases h
       · rename_i h1 h2 h3 h4
         exact ⟨by omega,by omega,Classical.byContradiction fun hh=>h4 ((zc0 _ _ _).2 hh)⟩
theorem zgu {t:TagL} (h:tagGood t=true):TagS t:=by
 unfold tagGood at h
 simp only [Bool.and_eq_true,beq_iff_eq] at h
 have h1:=zgt h.1
 have h2:=zgt h.2
 exact ⟨by omega,by omega⟩
end Go.AM
set_option linter.unusedVariables false
set_option linter.unusedSimpArgs false
namespace Go.AM
structure RightM (m:MetD):Prop where
 ok:MetOK m
 chk:chkM m=0
theorem zm9 {m:MetD} (h:RightM m):(∀ d∈m.2.2.1,DecLOK d∧decC d=0)∧1≤m.2.2.1.length∧m.2.2.1.length≤64:=by
 have:=(zf4 h.chk).2.2.1
 unfold valsB at this
 simp only [Bool.and_eq_true,decide_eq_true_eq] at this
 refine ⟨fun d hd=>⟨h.ok.2.1.2 d hd,?_⟩,this.1,this.2.1⟩
 simpa using List.all_eq_true.1 this.2.2 d hd
theorem zna {m:MetD} (h:RightM m):(∀ t∈m.2.2.2.2.1,TagS t∧tagGood t=true)∧m.2.2.2.2.1.length≤32:=by
 have:=(zf4 h.chk).2.2.2.2.1
 unfold tagsB at this
 simp only [Bool.and_eq_true,decide_eq_true_eq] at this
 exact ⟨fun t ht=>⟨zgu (List.all_eq_true.1 this.2 t ht),List.all_eq_true.1 this.2 t ht⟩,this.1⟩
theorem zpf {s:List UInt8} (h:nameOK s=true):1≤s.length∧s.length≤200:=by
 rw [zig] at h
 simp only [Bool.and_eq_true,decide_eq_true_eq] at h
 exact h.2
end Go.AM
set_option linter.unusedVariables false
set_option linter.unusedSimpArgs false
namespace Go.AM
abbrev Res (α:Type):=Except (Int×Int) α
def kindR (s:List UInt8):Int:=if s=[99] then 1 else if s=[103] then 2 else if s=[109,115] then 3 else if s=[104] then 4 else if s=[100] then 5 else 0
theorem zt4 (n:Nat) (hn:100≤n) (s:List UInt8):F.zai n s=some (if kindR s=0 then (0,16,()) else (kindR s,0,())):=by
 obtain ⟨m,hm⟩:∃ q,n=q+7:=⟨n - 7,by omega⟩
 unfold F.zai
 rw [show F.za2 n=some ([],[99],[103],[109,115],[104],[100],()) from rfl,za]
 have L:∀ (k0:Unit→Option (Int×Int×Unit)) (kr:Int→Int→Option (Int×Int×Unit)),F.zai.L2 n k0 kr (m+7) s ([],[99],[103],[109,115],[104],[100],()) (0:Int)=if s=[99] then kr 1 0 else if s=[103] then kr 2 0 else if s=[109,115] then kr 3 0 else if s=[104] then kr 4 0 else if s=[100] then kr 5 0 else k0 ():=by
  intro k0 kr
  have e1:([99]==s)=decide (s=[99]):=by by_cases h:s=[99]<;>simp [h]; exact fun h'=>h h'.symm
  have e2:([103]==s)=decide (s=[103]):=by by_cases h:s=[103]<;>simp [h]; exact fun h'=>h h'.symm
  have e3:([109,115]==s)=decide (s=[109,115]):=by by_cases h:s=[109,115]<;>simp [h]; exact fun h'=>h h'.symm
  have e4:([104]==s)=decide (s=[104]):=by by_cases h:s=[104]<;>simp [h]; exact fun h'=>h h'.symm
  have e5:([100]==s)=decide (s=[100]):=by by_cases h:s=[100]<;>simp [h]; exact fun h'=>h h'.symm
  show (bif [99]==s then kr 1 0 else bif [103]==s then kr 2 0 else bif [109,115]==s then kr 3 0 else bif [104]==s then kr 4 0 else bif [100]==s then kr 5 0 else k0 ())=_
  rw [e1,e2,e3,e4,e5]
  simp only [bdec]
 rw [hm] at L ⊢
 refine (L _ _).trans ?_
 unfold kindR
 repeat' split
 all_goals first | rfl | (simp_all)
def readVals:List (List UInt8)→List DecL→Int→Except Int (List DecL)
 | [],acc,_ => .ok acc
 | v::r,acc,at_=>if (parseR v).2.1.1=0∧acc.length≠64 then readVals r (acc++[((parseR v).1.1,(parseR v).1.2.1,(parseR v).1.2.2.1)]) (at_+v.length+1) else .error at_
def restN (c:UInt8) (s:List UInt8):List UInt8:=if c∈s then s.drop ((seg c s).length+1) else []
def firstR (s:List UInt8):Res (List UInt8×List DecL):=
 if nameOK (seg 58 s)=false then .error (15,0)
 else if 58∉s then .error (11,(s.length:Int))
 else match readVals (splitL 58 (restN 58 s)) [] ((seg 58 s).length+1) with
  | .ok vs => .ok (seg 58 s,vs)
  | .error at_ => .error (17,at_)
def tagsR:List (List UInt8)→List TagL→Int→Except Int (List TagL)
 | [],acc,_ => .ok acc
 | p::r,acc,at_=>if tagGood (seg 58 p,restN 58 p)=true∧¬ (58∈p∧restN 58 p=[]) then tagsR r (acc++[(seg 58 p,restN 58 p)]) (at_+p.length+1) else .error at_
def moreR (m:MetD) (last:Int):List UInt8→Except Int (MetD×Int)
 | [] => .error 11
 | x :: s =>
  if x=64 then (if 0<last then .error 11 else if (rateR s).2.1.1≠0∨(m.2.1=2∧(rateR s).1≠1000000) then .error 18 else .ok ((m.1,m.2.1,m.2.2.1,(rateR s).1,m.2.2.2.2.1,m.2.2.2.2.2.1,()),1))
  else if x=35 then (if 1<last then .error 11 else match tagsR (splitL 44 s) [] 0 with
   | .error _ => .error 19
   | .ok l=>if 32<l.length then .error 19 else .ok ((m.1,m.2.1,m.2.2.1,m.2.2.2.1,normT l,m.2.2.2.2.2.1,()),2))
  else if x=84 then (if 2<last then .error 11 else if (parseNum s 1 1099511627776).2.1.1≠0 then .error 20 else .ok ((m.1,m.2.1,m.2.2.1,m.2.2.2.1,m.2.2.2.2.1,(parseNum s 1 1099511627776).1,()),3))
  else .error 11
def restR:List (List UInt8)→Int→MetD→Int→Res MetD
 | [],_,m,_ => .ok m
 | p::r,at_,m,last=>match moreR m last p with
  | .error e => .error (e,at_)
  | .ok (m',last')=>restR r (at_+p.length+1) m' last'
def secondR (s p:List UInt8) (nm:List UInt8) (vs:List DecL):List (List UInt8)→Res MetD
 | [] => .error (11,(s.length:Int))
 | q::r=>if kindR q=0 then .error (16,(p.length:Int)+1) else restR r ((p.length:Int)+1+(q.length+1)) (nm,kindR q,vs,1000000,[],0,()) 0
def linesR (s:List UInt8):List (List UInt8)→Res MetD
 | [] => .error (11,0)
 | p::r=>match firstR p with
  | .error e => .error e
  | .ok x=>secondR s p x.1 x.2 r
abbrev ParseD:=MetD×(Int×Int×Unit)×Unit
def outP:Res MetD→ParseD
 | .ok m=>(m,(0,0,()),())
 | .error e=>(zeroM,(e.1,e.2,()),())
def parseD (s:List UInt8):ParseD:=if 8192<s.length then (zeroM,(12,0,()),()) else outP (linesR s (splitL 124 s))
theorem zkh (c:UInt8) (s:List UInt8):(restN c s).length≤s.length:=by
 unfold restN; split<;>simp
theorem zbn (c:UInt8) (s:List UInt8):splitL c s=if c∈s then seg c s::splitL c (restN c s) else [s]:=by
 induction s with
 | nil=>rfl
 | cons x s ih =>
  by_cases hx:x=c
  · subst hx
    have e1:seg x (x::s)=[]:=by rw [zar,if_pos rfl]
    have e2:restN x (x::s)=s:=by unfold restN; rw [if_pos (by simp),e1]; rfl
    rw [if_pos (by simp),e1,e2,splitL,if_pos rfl]
  · have hmem:(c∈x::s)↔c∈s:=by simp [show ¬ c=x from fun h=>hx h.symm]
    rw [splitL,if_neg hx,ih]
    by_cases hc:c∈s
    · rw [if_pos hc,if_pos (hmem.2 hc)]
      have e1:seg c (x::s)=x::seg c s:=by rw [zar,if_neg hx]
      have e2:restN c (x::s)=restN c s:=by unfold restN; rw [if_pos hc,if_pos (hmem.2 hc),e1]; rfl
      rw [e1,e2]
    · rw [if_neg hc,if_neg (fun h=>hc (hmem.1 h))]
def sumL (l:List (List UInt8)):Nat:=(l.map fun p=>p.length+1).sum
theorem zbb (c:UInt8) (s:List UInt8):sumL (splitL c s)=s.length+1:=by
 induction s with
 | nil=>rfl
 | cons x s ih =>
  rw [splitL]
  split
  · simp only [sumL,List.map_cons,List.sum_cons,List.length_nil,List.length_cons] at ih ⊢
    omega
  · have hne:=zbw c s
    revert ih hne
    cases splitL c s with
    | nil=>intro _ h; exact absurd rfl h
    | cons p l =>
     intro ih _
     simp only [sumL,List.map_cons,List.sum_cons,List.length_cons] at ih ⊢
     omega
theorem zbg (l:List (List UInt8)):l.length≤sumL l:=by
 induction l with
 | nil=>simp [sumL]
 | cons p l ih=>simp only [sumL,List.map_cons,List.sum_cons,List.length_cons] at ih ⊢; omega
theorem zcb {l:List (List UInt8)} {p:List UInt8} (h:p∈l):p.length+1≤sumL l:=by
 induction l with
 | nil=>cases h
 | cons q l ih =>
  simp only [sumL,List.map_cons,List.sum_cons] at ih ⊢
  rcases List.mem_cons.1 h with rfl | h
  · omega
  · have:=ih h; omega
theorem zf7 (n:Nat) (c:UInt8) {s:List UInt8} (hs:s.length≤1000000):O.split1 n s [c]=some (splitL c s):=by
 unfold O.split1
 dsimp only
 rw [decide_eq_true (by omega)]; rfl
theorem znb (s:List UInt8):((parseR s).2.1.1==0&&(parseR s).2.1.2.1==0)=decide ((parseR s).2.1.1=0):=by
 by_cases h:(parseR s).2.1.1=0
 · rw [decide_eq_true h,h,zbx h]; rfl
 · rw [decide_eq_false h,beq_eq_false_iff_ne.2 h]; rfl
theorem znc (n:Nat) (hn:200000≤n) (X:Type) (k0 kr:List TagL→Int→Int→Nat→Option X) (ps:List (List UInt8)) (hs:sumL ps≤10000) (b0 b1:Int):∀ (r:List (List UInt8)) (acc:List TagL) (a:Int) (i m:Nat),ps.drop i=r→acc.length≤i→i≤ps.length→r.length<m→0≤a→a+sumL r≤10000 →
 F.zac.L4 n k0 kr m acc a ps (ps.length:Int) (i:Int) b0 b1 acc.length=match tagsR r acc a with
  | .ok l=>k0 l b0 b1 l.length
  | .error e=>kr [] 19 e 0:=by
 intro r
 have hpl:=zbg ps
 induction r with
 | nil =>
  intro acc a i m h1 h2 hi hm ha has
  obtain ⟨m,rfl⟩:∃ q,m=q+1:=⟨m - 1,by omega⟩
  rw [F.zac.L4]
  unfold F.zac.L4.step
  dsimp only
  rw [zi (by have:=zaw h1; omega)]
  rfl
 | cons p r ih =>
  intro acc a i m h1 h2 hi hm ha has
  obtain ⟨m,rfl⟩:∃ q,m=q+1:=⟨m - 1,by simp at hm; omega⟩
  obtain ⟨l1,g1,t1⟩:=zan h1
  simp only [List.length_cons] at hm
  simp only [sumL,List.map_cons,List.sum_cons] at has
  have hp:=zcb (List.mem_of_getElem? g1)
  have hsl:=zad 58 p
  have hrl:=zkh 58 p
  have hih:=ih (acc++[(seg 58 p,restN 58 p)]) (a+p.length+1) (i+1) m t1 (by simp; omega) (by omega) (by omega) (by omega) (by simp only [sumL]; omega)
  have hcut:F.zw n p [58]=some (seg 58 p,restN 58 p,decide (58∈p),()):=zbm n 58 (by omega)
  have hw:IntKind.wrap .i64 (a+IntKind.wrap .i64 ((p.length:Int)+1))=a+p.length+1:=by
   rw [zh (by omega),ze (by omega)]; omega
  have hg:(decide ((acc.length+1)*32≤2 ^ 46)&&decide (0<32∧32≤2 ^ 20))=true:=by rw [decide_eq_true (by omega)]; rfl
  rw [F.zac.L4]
  unfold F.zac.L4.step
  dsimp only
  rw [zf (by omega),za3,g1,za,hcut,za]
  dsimp only
  have hc:=zt0 n hn (t:=(seg 58 p,restN 58 p)) ⟨by show (seg 58 p).length≤10000; omega,by show (restN 58 p).length≤10000; omega⟩
  dsimp only at hc
  rw [hc,za,hw,zh (by omega),hg,Nat.beq_refl,cond_true,cond_true,tagsR]
  cases tagGood (seg 58 p,restN 58 p)
  · rw [if_neg (by simp)]; rfl
  · rw [cond_true,beq_self_eq_true,Bool.not_true,cond_false,bdec]
    by_cases hin:(58:UInt8)∈p
    · rw [if_pos hin]
      by_cases h0:restN 58 p=[]
      · rw [h0,beq_self_eq_true,cond_true,if_neg (by simp [hin])]
      · rw [beq_eq_false_iff_ne.2 h0,cond_false,if_pos ⟨rfl,by simp [h0]⟩]
        exact hih
    · rw [if_neg hin,if_pos ⟨rfl,by simp [hin]⟩]
      exact hih
theorem zk8 (n:Nat) (hn:200000≤n) (s:List UInt8) (hs:s.length≤9000):F.zac n s=some (match tagsR (splitL 44 s) [] 0 with | .ok l=>(l,(0,0,()),()) | .error e=>([],(19,e,()),())):=by
 unfold F.zac
 have h1:=zbb 44 s
 have h2:=zbg (splitL 44 s)
 rw [zf7 n 44 (by omega),za]
 refine (znc n hn _ _ _ (splitL 44 s) (by omega) 0 0 (splitL 44 s) [] 0 0 n rfl (by simp) (by omega) (by omega) (by omega) (by omega)).trans ?_
 cases tagsR (splitL 44 s) [] 0<;>rfl
end Go.AM
set_option linter.unusedVariables false
set_option linter.unusedSimpArgs false
namespace Go.AM
end Go.AM
set_option linter.unusedVariables false
set_option linter.unusedSimpArgs false
namespace Go.AM
abbrev KR:=List UInt8→Int→List DecL→Int→List TagL→Int→Int→Int→List UInt8→Int→List DecL→Int→List TagL→Int→Int→Int→Int→Int→Int→Int→Nat→Nat→Nat→Option ParseD
abbrev K8:=List UInt8→List (List UInt8)→List UInt8→Int→List DecL→Int→List TagL→Int→Int→Int→List UInt8→Int→List DecL→Int→List TagL→Int→Int→Int→Int→Int→Nat→Nat→Nat→Option ParseD
def badP (e a:Int):ParseD:=(zeroM,(e,a,()),())
theorem znd (n:Nat) (hn:200000≤n) (k1 kr:KR) (ps:List (List UInt8)) (hs:sumL ps≤9000)
 (c0:List UInt8) (c1:Int) (c2:List DecL) (c3:Int) (c4:List TagL) (c5 d0 d1:Int) (e0:List UInt8) (e1:Int) (e3:Int) (e4:List TagL) (e5 e7 f0 f1:Int) (q0 q1:Nat)
 (hbad:∀ acc a l,kr c0 c1 c2 c3 c4 c5 d0 d1 e0 e1 acc e3 e4 e5 0 e7 f0 f1 17 a q0 q1 l=some (badP 17 a)) :
 ∀ (r:List (List UInt8)) (acc:List DecL) (a:Int) (i m:Nat),ps.drop i=r→acc.length≤i→i≤ps.length→r.length<m→0≤a→a+sumL r≤10000 →
 F.zf.L9_dog_reader_first n k1 kr m a ps (ps.length:Int) (i:Int) c0 c1 c2 c3 c4 c5 d0 d1 e0 e1 acc e3 e4 e5 0 e7 f0 f1 0 0 q0 q1 acc.length=match readVals r acc a with
  | .ok vs=>k1 c0 c1 c2 c3 c4 c5 d0 d1 e0 e1 vs e3 e4 e5 0 e7 f0 f1 0 0 q0 q1 vs.length
  | .error b=>some (badP 17 b):=by
 intro r
 have hpl:=zbg ps
 induction r with
 | nil =>
  intro acc a i m h1 h2 hi hm ha has
  obtain ⟨m,rfl⟩:∃ q,m=q+1:=⟨m - 1,by omega⟩
  rw [F.zf.L9_dog_reader_first]
  unfold F.zf.L9_dog_reader_first.step
  dsimp only
  rw [zi (by have:=zaw h1; omega)]
  rfl
 | cons p r ih =>
  intro acc a i m h1 h2 hi hm ha has
  obtain ⟨m,rfl⟩:∃ q,m=q+1:=⟨m - 1,by simp at hm; omega⟩
  obtain ⟨l1,g1,t1⟩:=zan h1
  simp only [List.length_cons] at hm
  simp only [sumL,List.map_cons,List.sum_cons] at has
  have hp:=zcb (List.mem_of_getElem? g1)
  have hih:=ih (acc++[((parseR p).1.1,(parseR p).1.2.1,(parseR p).1.2.2.1)]) (a+p.length+1) (i+1) m t1 (by simp; omega) (by omega) (by omega) (by omega) (by simp only [sumL]; omega)
  have hw:IntKind.wrap .i64 (a+IntKind.wrap .i64 ((p.length:Int)+1))=a+p.length+1:=by
   rw [zh (by omega),ze (by omega)]; omega
  have hw0:IntKind.wrap .i64 (0+a)=a:=by rw [Int.zero_add,ze (by omega)]
  have hg:(decide ((acc.length+1)*24≤2 ^ 46)&&decide (0<24∧24≤2 ^ 20))=true:=by rw [decide_eq_true (by omega)]; rfl
  have h64:((acc.length:Int)==64)=decide (acc.length=64):=by
   by_cases h:acc.length=64
   · rw [h]; rfl
   · rw [decide_eq_false h,beq_eq_false_iff_ne]; omega
  rw [F.zf.L9_dog_reader_first]
  unfold F.zf.L9_dog_reader_first.step
  dsimp only
  rw [zf (by omega),za3,g1,za,zcp n hn p (by omega),za,znb,hw,hw0,zh (by omega),hg,Nat.beq_refl,cond_true,cond_true,h64,readVals]
  by_cases h0:(parseR p).2.1.1=0
  · rw [decide_eq_true h0,Bool.not_true,cond_false]
    by_cases h6:acc.length=64
    · rw [decide_eq_true h6,cond_true,if_neg (by simp [h6])]
      exact hbad _ _ _
    · rw [decide_eq_false h6,cond_false,if_pos ⟨h0,h6⟩]
      exact hih
  · rw [decide_eq_false h0,Bool.not_false,cond_true,if_neg (by simp [h0])]
    exact hbad _ _ _
theorem zes (n:Nat) (c x:UInt8) (s:List UInt8):F.zu n (x::s) [c]=some (if x=c then (s,true,()) else (x::s,false,())):=by
 unfold F.zu F.zaf F.zv
 have h1:sub (x::s) 0 (([c]:List UInt8).length:Int)=some [x]:=by
  rw [show (0:Int)=((0:Nat):Int) from rfl,show (([c]:List UInt8).length:Int)=((1:Nat):Int) from rfl,zr (x::s) 0 1 (by omega) (by simp)]; rfl
 have h2:sub (x::s) (([c]:List UInt8).length:Int) ((x::s).length:Int)=some s:=by
  rw [show (([c]:List UInt8).length:Int)=((1:Nat):Int) from rfl,zr (x::s) 1 _ (by simp) (by omega),List.take_length]; rfl
 rw [zf (by simp; omega),h1,h2]
 by_cases h:x=c
 · subst h
   simp
 · rw [if_neg h]
   have:([x]==[c])=false:=by simpa using h
   simp [this]
theorem zdq (n:Nat) (c:UInt8):F.zu n [] [c]=some ([],false,()):=rfl
theorem zr6 (s:List UInt8):((rateR s).2.1.1==0&&(rateR s).2.1.2.1==0)=decide ((rateR s).2.1.1=0):=by
 by_cases h:(rateR s).2.1.1=0
 · rw [decide_eq_true h,h,(zhi h).1]; rfl
 · rw [decide_eq_false h,beq_eq_false_iff_ne.2 h]; rfl
theorem zr7 (s:List UInt8):((parseNum s 1 1099511627776).2.1.1==0&&(parseNum s 1 1099511627776).2.1.2.1==0)=decide ((parseNum s 1 1099511627776).2.1.1=0):=by
 by_cases h:(parseNum s 1 1099511627776).2.1.1=0
 · rw [decide_eq_true h,h,(zdo h).1]; rfl
 · rw [decide_eq_false h,beq_eq_false_iff_ne.2 h]; rfl
theorem zik:∀ (r:List (List UInt8)) (acc:List TagL) (a:Int) (l:List TagL),tagsR r acc a = .ok l→l.length=acc.length+r.length
 | [],acc,a,l,h=>by cases h; simp
 | p :: r,acc,a,l,h=>by
  rw [tagsR] at h
  split at h
  · have:=zik r _ _ _ h
    simp at this ⊢; omega
  · cases h
theorem zt5 (n:Nat) (hn:200000≤n) (k0 kr:KR) (p:List UInt8) (hs:p.length≤9000)
 (c0:List UInt8) (c1:Int) (c2:List DecL) (c3:Int) (c4:List TagL) (c5 d0 d1:Int) (e0:List UInt8) (e1:Int) (e2:List DecL) (e3:Int) (e4:List TagL) (e5 a last f0 f1:Int) (q0 q1 q2:Nat) (ha:0≤a∧a≤100000)
 (hk0:k0 c0 c1 c2 c3 c4 c5 d0 d1 e0 e1 e2 e3 e4 e5 a last f0 f1 0 0 q0 q1 q2=some (badP 11 a))
 (hbad:∀ l e,e≠0→kr c0 c1 c2 c3 c4 c5 d0 d1 e0 e1 e2 e3 e4 e5 a l f0 f1 e a q0 q1 q2=some (badP e a)) (m:Nat) (hm:5≤m) :
 F.zf.L2_dog_reader_more n k0 kr m p ([64],(),[35],(),[84],(),()) (0:Int) c0 c1 c2 c3 c4 c5 d0 d1 e0 e1 e2 e3 e4 e5 a last f0 f1 0 0 q0 q1 q2=match moreR (e0,e1,e2,e3,e4,e5,()) last p with
  | .error e=>some (badP e a)
  | .ok (w,l)=>kr c0 c1 c2 c3 c4 c5 d0 d1 w.1 w.2.1 w.2.2.1 w.2.2.2.1 w.2.2.2.2.1 w.2.2.2.2.2.1 a l f0 f1 0 0 q0 q1 q2:=by
 obtain ⟨m,rfl⟩:∃ q,m=q+4:=⟨m - 4,by omega⟩
 have hw0:IntKind.wrap .i64 (a+0)=a:=by rw [Int.add_zero,ze (by omega)]
 have w1:IntKind.wrap .i64 ((0:Int)+1)=1:=rfl
 have w2:IntKind.wrap .i64 ((1:Int)+1)=2:=rfl
 have w3:IntKind.wrap .i64 ((2:Int)+1)=3:=rfl
 have b1:((1:Int)==0)=false:=rfl
 have b2:((2:Int)==0)=false:=rfl
 have b3:((2:Int)==1)=false:=rfl
 cases p with
 | nil =>
  rw [moreR]
  rw [F.zf.L2_dog_reader_more]
  unfold F.zf.L2_dog_reader_more.step
  dsimp only
  rw [zf (by omega),beq_self_eq_true,cond_true,zdq,za,Bool.not_false,cond_true,w1,F.zf.L2_dog_reader_more]
  unfold F.zf.L2_dog_reader_more.step
  dsimp only
  rw [zf (by omega),b1,beq_self_eq_true,cond_true,cond_false,zdq,za,Bool.not_false,cond_true,w2,F.zf.L2_dog_reader_more]
  unfold F.zf.L2_dog_reader_more.step
  dsimp only
  rw [zf (by omega),b2,b3,beq_self_eq_true,cond_true,cond_false,cond_false,zdq,za,Bool.not_false,cond_true,w3,F.zf.L2_dog_reader_more]
  unfold F.zf.L2_dog_reader_more.step
  dsimp only
  rw [zi (by omega)]
  exact hk0
 | cons x s =>
  simp only [List.length_cons] at hs
  rw [moreR]
  rw [F.zf.L2_dog_reader_more]
  unfold F.zf.L2_dog_reader_more.step
  dsimp only
  rw [zf (by omega),beq_self_eq_true,cond_true,zes,za,w1,hw0]
  by_cases h64:x=64
  · rw [if_pos h64,if_pos h64]
    dsimp only
    rw [Bool.not_true,cond_false,bdec]
    by_cases hl:0<last
    · rw [if_pos hl,if_pos hl]; exact hk0
    · rw [if_neg hl,if_neg hl,zka n (by omega) s (by omega) (by omega),za,zr6]
      by_cases h0:(rateR s).2.1.1=0
      · rw [decide_eq_true h0,Bool.not_true,cond_false]
        by_cases h2:e1=2
        · rw [h2,beq_self_eq_true,cond_true]
          by_cases h1:(rateR s).1=1000000
          · rw [h1,beq_self_eq_true,Bool.not_true,cond_false,if_neg (by simp [h0])]
          · rw [beq_eq_false_iff_ne.2 h1,Bool.not_false,cond_true,if_pos (by simp [h1])]
            rw [h2] at hbad
            exact hbad _ _ (by decide)
        · rw [beq_eq_false_iff_ne.2 h2,cond_false,if_neg (by simp [h0,h2])]
      · rw [decide_eq_false h0,Bool.not_false,cond_true,if_pos (by simp [h0])]
        exact hbad _ _ (by decide)
  rw [if_neg h64,if_neg h64]
  dsimp only
  rw [Bool.not_false,cond_true]
  rw [F.zf.L2_dog_reader_more]
  unfold F.zf.L2_dog_reader_more.step
  dsimp only
  rw [zf (by omega),b1,beq_self_eq_true,cond_false,cond_true,zes,za,w2,hw0]
  by_cases h35:x=35
  · rw [if_pos h35,if_pos h35]
    dsimp only
    rw [Bool.not_true,cond_false,bdec]
    by_cases hl:1<last
    · rw [if_pos hl,if_pos hl]; exact hk0
    · have hsl:=zbb 44 s
      have hsn:=zbg (splitL 44 s)
      rw [if_neg hl,if_neg hl,zk8 n hn s (by omega),za]
      cases hT:tagsR (splitL 44 s) [] 0 with
      | error e =>
       dsimp only
       rw [show ((19:Int)==0)=false from rfl,Bool.false_and,Bool.not_false,cond_true]
       exact hbad _ _ (by decide)
      | ok l =>
       have hll:=zik _ _ _ _ hT
       simp only [List.length_nil,Nat.zero_add] at hll
       dsimp only
       rw [beq_self_eq_true,Bool.and_self,Bool.not_true,cond_false,bdec]
       by_cases h32:32<l.length
       · rw [if_pos (by omega),if_pos h32]
         exact hbad _ _ (by decide)
       · rw [if_neg (by omega),if_neg h32,zkg n hn l (by omega),za]
  rw [if_neg h35,if_neg h35]
  dsimp only
  rw [Bool.not_false,cond_true]
  rw [F.zf.L2_dog_reader_more]
  unfold F.zf.L2_dog_reader_more.step
  dsimp only
  rw [zf (by omega),b2,b3,beq_self_eq_true,cond_false,cond_false,cond_true,zes,za,w3,hw0]
  by_cases h84:x=84
  · rw [if_pos h84,if_pos h84]
    dsimp only
    rw [Bool.not_true,cond_false,bdec]
    by_cases hl:2<last
    · rw [if_pos hl,if_pos hl]; exact hk0
    · rw [if_neg hl,if_neg hl,zl1 n s (by omega) (by omega),za,zr7]
      by_cases h0:(parseNum s 1 1099511627776).2.1.1=0
      · rw [decide_eq_true h0,Bool.not_true,cond_false,if_neg (by simp [h0])]
      · rw [decide_eq_false h0,Bool.not_false,cond_true,if_pos h0]
        exact hbad _ _ (by decide)
  rw [if_neg h84,if_neg h84]
  dsimp only
  rw [Bool.not_false,cond_true]
  rw [F.zf.L2_dog_reader_more]
  unfold F.zf.L2_dog_reader_more.step
  dsimp only
  rw [zi (by omega)]
  exact hk0
structure K8OK (s:List UInt8) (ps:List (List UInt8)) (k0:K8):Prop where
 bad:∀ c0 c1 c2 c3 c4 c5 d0 d1 e0 e1 e2 e3 e4 e5 e6 e7 e a q0 q1 q2,e≠0→k0 s ps c0 c1 c2 c3 c4 c5 d0 d1 e0 e1 e2 e3 e4 e5 e6 e7 e a q0 q1 q2=some (badP e a)
 ok:2≤ps.length→∀ c0 c1 c2 c3 c4 c5 d0 d1 e0 e1 e2 e3 e4 e5 e6 e7 q0 q1 q2,k0 s ps c0 c1 c2 c3 c4 c5 d0 d1 e0 e1 e2 e3 e4 e5 e6 e7 0 0 q0 q1 q2=some ((e0,e1,e2,e3,e4,e5,()),(0,0,()),())
 one:ps.length<2→∀ c0 c1 c2 c3 c4 c5 d0 d1 e0 e1 e2 e3 e4 e5 e6 e7 q0 q1 q2,k0 s ps c0 c1 c2 c3 c4 c5 d0 d1 e0 e1 e2 e3 e4 e5 e6 e7 0 0 q0 q1 q2=some (badP 11 (s.length:Int))
theorem zl2 {a:Int} (p:List UInt8) (h:0≤a∧a+p.length+1≤100000):IntKind.wrap .i64 (a+IntKind.wrap .i64 ((p.length:Int)+1))=a+p.length+1:=by
 rw [zh (by omega),ze (by omega)]; omega
theorem zne (n:Nat) (hn:200000≤n) (k0:K8) (s:List UInt8) (ps:List (List UInt8)) (hs:sumL ps≤9000) (hk:K8OK s ps k0) (h2:2≤ps.length)
 (c0:List UInt8) (c1:Int) (c2:List DecL) (c3:Int) (c4:List TagL) (c5 d0 d1:Int) (q0 q1 q2:Nat) :
 ∀ (r:List (List UInt8)) (a:Int) (w:MetD) (last:Int) (i m:Nat),ps.drop i=r→2≤i→i≤ps.length→r.length<m→0≤a→a+sumL r≤10000 →
 F.zf.L8 n k0 m s ps ps (ps.length:Int) (i:Int) c0 c1 c2 c3 c4 c5 d0 d1 w.1 w.2.1 w.2.2.1 w.2.2.2.1 w.2.2.2.2.1 w.2.2.2.2.2.1 a last 0 0 q0 q1 q2=some (outP (restR r a w last)):=by
 intro r
 have hpl:=zbg ps
 induction r with
 | nil =>
  intro a w last i m h1 hi2 hi hm ha has
  obtain ⟨m,rfl⟩:∃ q,m=q+1:=⟨m - 1,by omega⟩
  rw [F.zf.L8]
  unfold F.zf.L8.step
  dsimp only
  rw [zi (by have:=zaw h1; omega),restR]
  exact hk.ok h2 _ _ _ _ _ _ _ _ _ _ _ _ _ _ _ _ _ _ _
 | cons p r ih =>
  intro a w last i m h1 hi2 hi hm ha has
  obtain ⟨m,rfl⟩:∃ q,m=q+1:=⟨m - 1,by simp at hm; omega⟩
  obtain ⟨l1,g1,t1⟩:=zan h1
  simp only [List.length_cons] at hm
  simp only [sumL,List.map_cons,List.sum_cons] at has
  have hp:=zcb (List.mem_of_getElem? g1)
  have hw0:IntKind.wrap .i64 (a+0)=a:=by rw [Int.add_zero,ze (by omega)]
  rw [F.zf.L8]
  unfold F.zf.L8.step
  dsimp only
  rw [zf (by omega),za3,g1,za,zi (by omega:¬ (i:Int)<2)]
  refine (zt5 n hn _ _ p (by omega) c0 c1 c2 c3 c4 c5 d0 d1 w.1 w.2.1 w.2.2.1 w.2.2.2.1 w.2.2.2.2.1 w.2.2.2.2.2.1 a last 0 0 q0 q1 q2 (by omega) ?_ ?_ n (by omega)).trans ?_
  · rw [hw0,Bool.false_and,Bool.not_false,cond_true]
    exact hk.bad _ _ _ _ _ _ _ _ _ _ _ _ _ _ _ _ _ _ _ _ _ (by decide)
  · intro l e he
    rw [beq_eq_false_iff_ne.2 he,Bool.false_and,Bool.not_false,cond_true]
    exact hk.bad _ _ _ _ _ _ _ _ _ _ _ _ _ _ _ _ _ _ _ _ _ he
  · have hww:(w.1,w.2.1,w.2.2.1,w.2.2.2.1,w.2.2.2.2.1,w.2.2.2.2.2.1,())=w:=rfl
    rw [hww,restR]
    cases moreR w last p with
    | error e=>rfl
    | ok x =>
     obtain ⟨w',l'⟩:=x
     dsimp only
     rw [zl2 p (by omega),zh (by omega)]
     exact ih (a+p.length+1) w' l' (i+1) m t1 (by omega) (by omega) (by omega) (by omega) (by simp only [sumL]; omega)
theorem nameB (s:List UInt8):(((textF 1 s 1 200).1==0)&&((textF 1 s 1 200).2.1==0))=nameOK s:=zdm 1 s 1 200
theorem zr8 (n:Nat) (hn:200000≤n) (k0:K8) (s:List UInt8) (ps:List (List UInt8)) (hne:ps≠[]) (hs:sumL ps≤9000) (hsl:s.length≤9000) (hk:K8OK s ps k0) (c0:List UInt8) (c1:Int) (c2:List DecL) (c3:Int) (c4:List TagL) (c5 d0 d1:Int) (q0 q1:Nat) :
 F.zf.L8 n k0 n s ps ps (ps.length:Int) (0:Int) c0 c1 c2 c3 c4 c5 d0 d1 [] 0 [] 1000000 [] 0 0 0 0 0 q0 q1 0=some (outP (linesR s ps)):=by
 have hpl:=zbg ps
 cases ps with
 | nil=>exact absurd rfl hne
 | cons p r =>
  obtain ⟨m,hm⟩:∃ q,n=q+2:=⟨n - 2,by omega⟩
  have hp:=zcb (show p∈p::r by simp)
  have hseg:=zad 58 p
  have hrn:=zkh 58 p
  have hcut:F.zw n p [58]=some (seg 58 p,restN 58 p,decide (58∈p),()):=zbm n 58 (by omega)
  have hw0:∀ x:Int,0≤x∧x≤100000→IntKind.wrap .i64 (0+x)=x:=fun x hx=>by rw [Int.zero_add,ze (by omega)]
  have key:∀ m,20001≤m+1→F.zf.L8 n k0 (m+1) s (p::r) (p::r) ((p::r).length:Int) (0:Int) c0 c1 c2 c3 c4 c5 d0 d1 [] 0 [] 1000000 [] 0 0 0 0 0 q0 q1 0=match firstR p with
   | .error e=>some (badP e.1 e.2)
   | .ok x=>F.zf.L8 n k0 m s (p::r) (p::r) ((p::r).length:Int) ((1:Nat):Int) c0 c1 c2 c3 c4 c5 d0 d1 x.1 0 x.2 1000000 [] 0 ((p.length:Int)+1) 0 0 0 q0 q1 x.2.length:=by
   intro m hm
   rw [F.zf.L8]
   unfold F.zf.L8.step
   dsimp only
   rw [zf (by simp only [List.length_cons]; omega),show idx (p::r) 0=some p from rfl,za,zf (by omega:(0:Int)<2),beq_self_eq_true,cond_true,hcut,za]
   dsimp only
   rw [zbf n 1 _ 1 200 (by omega) (by omega),za,nameB]
   unfold firstR
   cases hnm:nameOK (seg 58 p)
   · rw [Bool.not_false,cond_true,if_pos rfl,hw0 0 (by omega),Bool.false_and,Bool.not_false,cond_true]
     exact hk.bad _ _ _ _ _ _ _ _ _ _ _ _ _ _ _ _ _ _ _ _ _ (by decide)
   · rw [Bool.not_true,cond_false,if_neg (by simp)]
     by_cases hin:(58:UInt8)∈p
     · rw [decide_eq_true hin,Bool.not_true,cond_false,if_neg (by simp [hin]),zf7 n 58 (by omega),za]
       have hsum:=zbb 58 (restN 58 p)
       have hsn:=zbg (splitL 58 (restN 58 p))
       have hrl:(seg 58 p).length+1+(restN 58 p).length≤p.length:=by
        unfold restN
        rw [if_pos hin,List.length_drop]
        have:=za2 hin
        omega
       have hA:IntKind.wrap .i64 (((seg 58 p).length:Int)+1)=((seg 58 p).length:Int)+1:=ze (by omega)
       have hP:IntKind.wrap .i64 ((p.length:Int)+1)=(p.length:Int)+1:=ze (by omega)
       rw [hA,hP]
       refine (znd n hn _ _ (splitL 58 (restN 58 p)) (by omega) c0 c1 c2 c3 c4 c5 d0 d1 (seg 58 p) 0 1000000 [] 0 0 0 0 q0 q1 ?_ (splitL 58 (restN 58 p)) [] _ 0 n rfl (by simp) (by omega) (by omega) (by omega) (by omega)).trans ?_
       · intro acc a l
         rw [show ((17:Int)==0)=false from rfl,Bool.false_and,Bool.not_false,cond_true]
         exact hk.bad _ _ _ _ _ _ _ _ _ _ _ _ _ _ _ _ _ _ _ _ _ (by decide)
       · cases readVals (splitL 58 (restN 58 p)) [] (((seg 58 p).length:Int)+1) with
         | error b=>rfl
         | ok vs =>
          dsimp only
          rw [Bool.and_self,Bool.not_true,cond_false,hw0 ((p.length:Int)+1) (by omega)]
          rfl
     · rw [decide_eq_false hin,Bool.not_false,cond_true,if_pos hin,hw0 _ (by omega),Bool.false_and,Bool.not_false,cond_true]
       exact hk.bad _ _ _ _ _ _ _ _ _ _ _ _ _ _ _ _ _ _ _ _ _ (by decide)
  have key2:∀ m,20001≤m+1→∀ nm (vs:List DecL) (a:Int) (l:Nat),a=(p.length:Int)+1→F.zf.L8 n k0 (m+1) s (p::r) (p::r) ((p::r).length:Int) ((1:Nat):Int) c0 c1 c2 c3 c4 c5 d0 d1 nm 0 vs 1000000 [] 0 a 0 0 0 q0 q1 l=some (outP (secondR s p nm vs r)):=by
   intro m hm nm vs a l hA
   rw [F.zf.L8]
   unfold F.zf.L8.step
   dsimp only
   cases r with
   | nil =>
    rw [zi (by simp),secondR]
    exact hk.one (by simp) _ _ _ _ _ _ _ _ _ _ _ _ _ _ _ _ _ _ _
   | cons q r =>
    have hq:=zcb (show q∈p::q::r by simp)
    rw [zf (by simp only [List.length_cons]; omega),show idx (p::q::r) ((1:Nat):Int)=some q from rfl,za,zf (by omega),show (((1:Nat):Int)==0)=false from rfl,cond_false,show (((1:Nat):Int)==1)=true from rfl,cond_true,zt4 n (by omega),za]
    have hwa:IntKind.wrap .i64 (a+0)=a:=by rw [Int.add_zero,ze (by omega)]
    rw [secondR]
    by_cases h0:kindR q=0
    · rw [if_pos h0,if_pos h0]
      dsimp only
      rw [show ((16:Int)==0)=false from rfl,Bool.not_false,cond_true,Bool.false_and,Bool.not_false,cond_true,hwa,hA]
      exact hk.bad _ _ _ _ _ _ _ _ _ _ _ _ _ _ _ _ _ _ _ _ _ (by decide)
    · rw [if_neg h0,if_neg h0]
      dsimp only
      rw [beq_self_eq_true,Bool.not_true,cond_false,Bool.and_self,Bool.not_true,cond_false]
      simp only [sumL,List.map_cons,List.sum_cons,List.length_cons] at hs hpl
      rw [zl2 q (by omega),show IntKind.wrap .i64 (((1:Nat):Int)+1)=((2:Nat):Int) from rfl,hA]
      have:=zne n hn k0 s (p::q::r) (by simp only [sumL,List.map_cons,List.sum_cons]; omega) hk (by simp) c0 c1 c2 c3 c4 c5 d0 d1 q0 q1 l r ((p.length:Int)+1+(q.length+1)) (nm,kindR q,vs,1000000,[],0,()) 0 2 m rfl (by omega) (by simp) (by omega) (by omega) (by simp only [sumL]; omega)
      rw [show (p.length:Int)+1+(q.length+1)=(p.length:Int)+1+q.length+1 by omega] at this ⊢
      exact this
  have k1:=key (m+1) (by omega)
  have k2:=key2 m (by omega)
  have hmm:n=m+1+1:=hm
  rw [linesR]
  have goal:∀ j,j=m+1+1→F.zf.L8 n k0 j s (p::r) (p::r) ((p::r).length:Int) (0:Int) c0 c1 c2 c3 c4 c5 d0 d1 [] 0 [] 1000000 [] 0 0 0 0 0 q0 q1 0=some (outP (match firstR p with
   | .error e => .error e
   | .ok x=>secondR s p x.1 x.2 r)):=by
   intro j hj
   rw [hj,k1]
   cases firstR p with
   | error e=>rfl
   | ok x=>exact k2 x.1 x.2 _ _ rfl
  exact goal n hmm
theorem zr9 (n:Nat) (hn:200000≤n) (s:List UInt8) (hs:s.length≤1000000):F.zf n s=some (parseD s):=by
 unfold F.zf parseD
 rw [bdec]
 by_cases h:8192<s.length
 · rw [if_pos (by omega),if_pos h]; rfl
 · rw [if_neg (by omega),if_neg h,zf7 n 124 hs,za]
   have hsum:=zbb 124 s
   refine zr8 n hn _ s (splitL 124 s) (zbw 124 s) (by omega) (by omega) ⟨?_,?_,?_⟩ [] 0 [] 0 [] 0 0 0 0 0
   · intro c0 c1 c2 c3 c4 c5 d0 d1 e0 e1 e2 e3 e4 e5 e6 e7 e a q0 q1 q2 he
     rw [beq_eq_false_iff_ne.2 he,Bool.false_and,cond_false,Bool.not_false,cond_true]
     rfl
   · intro h2 c0 c1 c2 c3 c4 c5 d0 d1 e0 e1 e2 e3 e4 e5 e6 e7 q0 q1 q2
     rw [beq_self_eq_true,Bool.and_self,cond_true,zi (by omega),Bool.not_true,cond_false]
   · intro h2 c0 c1 c2 c3 c4 c5 d0 d1 e0 e1 e2 e3 e4 e5 e6 e7 q0 q1 q2
     rw [beq_self_eq_true,Bool.and_self,cond_true,zf (by omega),Bool.false_and,Bool.not_false,cond_true]
     rfl
end Go.AM
set_option linter.unusedVariables false
set_option linter.unusedSimpArgs false
namespace Go.AM
end Go.AM
set_option linter.unusedVariables false
set_option linter.unusedSimpArgs false
namespace Go.AM
end Go.AM
set_option linter.unusedVariables false
set_option linter.unusedSimpArgs false
namespace Go.AM
theorem zgv:∀ (r:List (List UInt8)) (acc:List TagL) (a:Int) (l:List TagL),tagsR r acc a = .ok l→(∀ t∈acc,tagGood t=true)→∀ t∈l,tagGood t=true
 | [],acc,a,l,h,hg=>by cases h; exact hg
 | p :: r,acc,a,l,h,hg=>by
  rw [tagsR] at h
  split at h
  · rename_i hc
    refine zgv r _ _ _ h (fun t ht => ?_)
    rcases List.mem_append.1 ht with ht | ht
    · exact hg t ht
    · rw [List.mem_singleton.1 ht]; exact hc.1
  · cases h
theorem zt6 {t:TagL} (h:TagS t):TagLOK t:=⟨by have:=h.1; omega,by have:=h.2; omega⟩
end Go.AM
set_option linter.unusedVariables false
set_option linter.unusedSimpArgs false
namespace Go.AM
end Go.AM
set_option linter.unusedVariables false
set_option linter.unusedSimpArgs false
namespace Go.AM
structure InvM (m:MetD):Prop where
 nm:nameOK m.1=true
 kd:kindB m.2.1=true
 vs:(∀ d∈m.2.2.1,DecLOK d∧decC d=0)∧1≤m.2.2.1.length∧m.2.2.1.length≤64
 rt:rateB m.2.1 m.2.2.2.1=true
 tg:(∀ t∈m.2.2.2.2.1,tagGood t=true)∧m.2.2.2.2.1.length≤32∧StrictT m.2.2.2.2.1
 tm:timeB m.2.2.2.2.2.1=true
theorem InvM.right {m:MetD} (h:InvM m):RightM m:=by
 have hn:=zpf h.nm
 refine ⟨⟨by omega,⟨by have:=h.vs.2.2; omega,fun d hd=>(h.vs.1 d hd).1⟩,by have:=h.tg.2.1; omega,fun t ht=>zt6 (zgu (h.tg.1 t ht))⟩,?_⟩
 have hv:valsB m.2.2.1=true:=by
  unfold valsB
  simp only [Bool.and_eq_true,decide_eq_true_eq]
  exact ⟨h.vs.2.1,h.vs.2.2,List.all_eq_true.2 (fun d hd=>by simp [(h.vs.1 d hd).2])⟩
 have ht:tagsB m.2.2.2.2.1=true:=by
  unfold tagsB
  simp only [Bool.and_eq_true,decide_eq_true_eq]
  exact ⟨h.tg.2.1,List.all_eq_true.2 h.tg.1⟩
 unfold chkM
 rw [h.nm,h.kd,hv,h.rt,ht,h.tm]
 rfl
theorem RightM.inv {m:MetD} (h:RightM m) (hs:StrictT m.2.2.2.2.1):InvM m:=by
 obtain ⟨c1,c2,c3,c4,c5,c6⟩:=zf4 h.chk
 have ht:=zna h
 exact ⟨c1,c2,zm9 h,c4,⟨fun t htm=>(ht.1 t htm).2,ht.2,hs⟩,c6⟩
theorem znf {p:List UInt8} (h:(parseR p).2.1.1=0):DecLOK ((parseR p).1.1,(parseR p).1.2.1,(parseR p).1.2.2.1)∧decC ((parseR p).1.1,(parseR p).1.2.1,(parseR p).1.2.2.1)=0:=by
 obtain ⟨neg,c,e,h1,h2,h3,h4⟩:=zry h
 rw [h1]
 refine ⟨⟨trivial,⟨by simp,?_⟩,h3⟩,h4⟩
 have:=zaq
 simp only
 omega
theorem zfk:∀ (r:List (List UInt8)) (acc:List DecL) (a:Int) (vs:List DecL),readVals r acc a = .ok vs→(∀ d∈acc,DecLOK d∧decC d=0)→acc.length≤64→(∀ d∈vs,DecLOK d∧decC d=0)∧vs.length≤64∧vs.length=acc.length+r.length
 | [],acc,a,vs,h,hd,hl=>by cases h; exact ⟨hd,hl,by simp⟩
 | p :: r,acc,a,vs,h,hd,hl=>by
  rw [readVals] at h
  split at h
  · rename_i hc
    have hr:=zfk r _ _ _ h (fun d hd'=>by
     rcases List.mem_append.1 hd' with hd' | hd'
     · exact hd d hd'
     · rw [List.mem_singleton.1 hd']; exact znf hc.1) (by simp; omega)
    refine ⟨hr.1,hr.2.1,?_⟩
    have:=hr.2.2
    simp at this ⊢
    omega
  · cases h
theorem zet:∀ (r:List (List UInt8)) (acc:List DecL) (a b:Int),readVals r acc a = .error b→a≤b∧b<a+sumL r
 | [],acc,a,b,h=>by cases h
 | p :: r,acc,a,b,h=>by
  rw [readVals] at h
  simp only [sumL,List.map_cons,List.sum_cons]
  split at h
  · have:=zet r _ _ _ h
    simp only [sumL] at this
    omega
  · cases h; omega
theorem zsa {s:List UInt8} (h:kindR s≠0):kindB (kindR s)=true:=by
 revert h
 unfold kindR
 repeat' split
 all_goals first | (intro _; rfl) | (intro h; exact absurd rfl h)
theorem zsb {m:MetD} (h:InvM m) {last:Int} {p:List UInt8} {m':MetD} {l:Int} (hr:moreR m last p = .ok (m',l)):InvM m':=by
 cases p with
 | nil=>cases hr
 | cons x s =>
  rw [moreR] at hr
  split at hr
  · split at hr
    · cases hr
    · split at hr
      · cases hr
      · rename_i hc
        cases hr
        have h0:(rateR s).2.1.1=0:=Classical.byContradiction fun hh=>hc (Or.inl hh)
        obtain ⟨_,r1,r2,_⟩:=zhi h0
        refine ⟨h.nm,h.kd,h.vs,?_,h.tg,h.tm⟩
        unfold rateB
        simp only [Bool.and_eq_true,decide_eq_true_eq]
        refine ⟨r1,r2,?_⟩
        by_cases h2:m.2.1=2
        · have:(rateR s).1=1000000:=Classical.byContradiction fun hh=>hc (Or.inr ⟨h2,hh⟩)
          simp [this]
        · simp [h2]
  · split at hr
    · split at hr
      · cases hr
      · split at hr
        · cases hr
        · rename_i l' hT
          split at hr
          · cases hr
          · rename_i h32
            cases hr
            have hg:=zgv _ _ _ _ hT (fun t ht=>by cases ht)
            refine ⟨h.nm,h.kd,h.vs,h.rt,⟨fun t ht=>hg t ((zih _ _).1 ht),?_,zer _⟩,h.tm⟩
            have:=zii l'
            show (normT l').length≤32
            omega
    · split at hr
      · split at hr
        · cases hr
        · split at hr
          · cases hr
          · rename_i hc
            cases hr
            have h0:(parseNum s 1 1099511627776).2.1.1=0:=Classical.byContradiction hc
            obtain ⟨_,r1,r2,r3,r4,_⟩:=zdo h0
            refine ⟨h.nm,h.kd,h.vs,h.rt,h.tg,?_⟩
            unfold timeB
            simp only [Bool.and_eq_true,decide_eq_true_eq]
            rw [r1]
            omega
      · cases hr
theorem zpg {m:MetD} {last:Int} {p:List UInt8} {e:Int} (hr:moreR m last p = .error e):e≠0:=by
 cases p with
 | nil=>cases hr; decide
 | cons x s =>
  rw [moreR] at hr
  split at hr
  · split at hr
    · cases hr; decide
    · split at hr<;>cases hr; decide
  · split at hr
    · split at hr
      · cases hr; decide
      · split at hr
        · cases hr; decide
        · split at hr<;>cases hr; decide
    · split at hr
      · split at hr
        · cases hr; decide
        · split at hr<;>cases hr; decide
      · cases hr; decide
theorem zki:∀ (r:List (List UInt8)) (a:Int) (m:MetD) (last:Int),InvM m→(∀ m',restR r a m last = .ok m'→InvM m')∧(∀ e b,restR r a m last = .error (e,b)→e≠0∧a≤b∧b<a+sumL r)
 | [],a,m,last,h=>⟨fun m' hr=>by cases hr; exact h,fun e b hr=>by cases hr⟩
 | p :: r,a,m,last,h=>by
  rw [restR]
  simp only [sumL,List.map_cons,List.sum_cons]
  cases hm:moreR m last p with
  | error e=>exact ⟨fun m' hr=>(by cases hr),fun e b hr=>by cases hr; exact ⟨zpg hm,by omega,by omega⟩⟩
  | ok x =>
   obtain ⟨m1,l1⟩:=x
   obtain ⟨h1,h2⟩:=zki r (a+p.length+1) m1 l1 (zsb h hm)
   refine ⟨h1,fun e b hr => ?_⟩
   have:=h2 e b hr
   simp only [sumL] at this
   omega
theorem zph {s:List UInt8} {nm:List UInt8} {vs:List DecL} (h:firstR s = .ok (nm,vs)):nameOK nm=true∧(∀ d∈vs,DecLOK d∧decC d=0)∧1≤vs.length∧vs.length≤64:=by
 unfold firstR at h
 split at h
 · cases h
 · rename_i hnm
   split at h
   · cases h
   · split at h
     · rename_i vs' hv
       cases h
       obtain ⟨h1,h2,h3⟩:=zfk _ _ _ _ hv (fun d hd=>by cases hd) (by simp)
       have:=List.length_pos_iff.2 (zbw 58 (restN 58 s))
       simp only [List.length_nil,Nat.zero_add] at h3
       exact ⟨by simpa using hnm,h1,by omega,h2⟩
     · cases h
theorem zng {s:List UInt8} {e a:Int} (h:firstR s = .error (e,a)):e≠0∧0≤a∧a≤s.length:=by
 unfold firstR at h
 split at h
 · cases h; exact ⟨by decide,by omega,by omega⟩
 · split at h
   · cases h; exact ⟨by decide,by omega,by omega⟩
   · rename_i hin
     split at h
     · cases h
     · rename_i b hv
       cases h
       have h1:=zet _ _ _ _ hv
       have h2:=zbb 58 (restN 58 s)
       have hin':(58:UInt8)∈s:=Classical.byContradiction hin
       have h3:(restN 58 s).length=s.length - ((seg 58 s).length+1):=by unfold restN; rw [if_pos hin',List.length_drop]
       have h4:=za2 hin'
       exact ⟨by decide,by omega,by omega⟩
theorem zpi (s:List UInt8) (ps:List (List UInt8)) (hsum:sumL ps=s.length+1):(∀ m,linesR s ps = .ok m→InvM m)∧(∀ e a,linesR s ps = .error (e,a)→e≠0∧0≤a∧a≤s.length):=by
 cases ps with
 | nil=>exact ⟨fun m h=>(by cases h),fun e a h=>by cases h; exact ⟨by decide,by omega,by omega⟩⟩
 | cons p r =>
  simp only [sumL,List.map_cons,List.sum_cons] at hsum
  rw [linesR]
  cases hf:firstR p with
  | error x =>
   obtain ⟨e,a⟩:=x
   refine ⟨fun m h=>(by cases h),fun e a h => ?_⟩
   cases h
   have:=zng hf
   exact ⟨this.1,this.2.1,by omega⟩
  | ok x =>
   obtain ⟨nm,vs⟩:=x
   obtain ⟨h1,h2,h3,h4⟩:=zph hf
   dsimp only
   cases r with
   | nil =>
    rw [secondR]
    exact ⟨fun m h=>(by cases h),fun e a h=>by cases h; exact ⟨by decide,by omega,by omega⟩⟩
   | cons q r =>
    simp only [List.map_cons,List.sum_cons] at hsum
    rw [secondR]
    by_cases h0:kindR q=0
    · rw [if_pos h0]
      exact ⟨fun m h=>(by cases h),fun e a h=>by cases h; exact ⟨by decide,by omega,by omega⟩⟩
    · rw [if_neg h0]
      have inv:InvM (nm,kindR q,vs,1000000,[],0,()):=⟨h1,zsa h0,⟨h2,h3,h4⟩,by
       unfold rateB; simp,⟨fun t ht=>(by cases ht),by simp,List.Pairwise.nil⟩,(show timeB 0=true by decide)⟩
      obtain ⟨g1,g2⟩:=zki r ((p.length:Int)+1+(q.length+1)) _ 0 inv
      refine ⟨g1,fun e a h => ?_⟩
      have:=g2 e a h
      simp only [sumL] at this
      omega
theorem zkj (s:List UInt8):((parseD s).2.1=(0,0,())∧InvM (parseD s).1)∨(∃ e a,e≠0∧0≤a∧a≤(s.length:Int)∧parseD s=badP e a):=by
 unfold parseD
 split
 · exact Or.inr ⟨12,0,by decide,by omega,by omega,rfl⟩
 · obtain ⟨h1,h2⟩:=zpi s (splitL 124 s) (zbb 124 s)
   cases hl:linesR s (splitL 124 s) with
   | ok m=>exact Or.inl ⟨rfl,h1 m hl⟩
   | error x =>
    obtain ⟨e,a⟩:=x
    obtain ⟨g1,g2,g3⟩:=h2 e a hl
    exact Or.inr ⟨e,a,g1,g2,g3,rfl⟩
end Go.AM
set_option linter.unusedVariables false
set_option linter.unusedSimpArgs false
namespace Go.AM
end Go.AM
set_option linter.unusedVariables false
set_option linter.unusedSimpArgs false
namespace Go.AM
def sdM (s:List UInt8):MetR:=(sdParse s).getD (badM 11 0)
theorem zkk (s:List UInt8):sdParse s=some (sdM s):=by
 unfold sdM
 rcases zkc s with ⟨c,a,h,_⟩ | ⟨_,_,_,_,_,_,_,_,_,_,_,_,_,h⟩<;>rw [h]<;>rfl
def fmtB (f:Int):Bool:=decide (1≤f)&&decide (f≤3)
def parseT (s:List UInt8) (f:Int):MetR:=
 if fmtB f=false then badM 29 0 else if 8192<s.length then badM 12 0 else if f=1 then sdM s else if f=2 then parseD s else grParse s
theorem zil {f:Int} (h:fmtB f=true):f=1∨f=2∨f=3:=by
 unfold fmtB at h
 simp only [Bool.and_eq_true,decide_eq_true_eq] at h
 omega
theorem zeu (n:Nat) (hn:200000≤n) (s:List UInt8) (hs:s.length≤1000000000) (f:Int):F.zao n s f=some (parseT s f):=by
 unfold F.zao parseT
 have hd:decide ((s.length:Int)>8192)=decide (8192<s.length):=decide_eq_decide.2 (by omega)
 rw [hd]
 cases hf:fmtB f
 · have h1:f≠1:=fun e=>by rw [e] at hf; cases hf
   have h2:f≠2:=fun e=>by rw [e] at hf; cases hf
   have h3:f≠3:=fun e=>by rw [e] at hf; cases hf
   rw [beq_eq_false_iff_ne.2 h1,beq_eq_false_iff_ne.2 h2,beq_eq_false_iff_ne.2 h3,if_pos rfl]
   rfl
 · rw [if_neg (by simp)]
   by_cases hl:8192<s.length
   · rw [decide_eq_true hl,if_pos hl]
     rcases zil hf with rfl | rfl | rfl<;>rfl
   · rw [decide_eq_false hl,if_neg hl]
     rcases zil hf with rfl | rfl | rfl
     · rw [beq_self_eq_true,cond_true,cond_false,zm4 n hn s (by omega),zkk,if_pos rfl]
       rfl
     · rw [show ((2:Int)==1)=false from rfl,cond_false,beq_self_eq_true,cond_true,cond_false,zr9 n hn s (by omega),if_neg (by decide),if_pos rfl]
       rfl
     · rw [show ((3:Int)==1)=false from rfl,show ((3:Int)==2)=false from rfl,cond_false,cond_false,beq_self_eq_true,cond_true,cond_false,zm8 n hn s (by omega),if_neg (by decide),if_neg (by decide)]
       rfl
theorem zkl (s:List UInt8) (f:Int):((parseT s f).2.1=(0,0,())∧(parseT s f).1.2.2.1.length≤64∧(parseT s f).1.2.2.2.2.1.length≤32)∨(∃ c a,c≠0∧0≤a∧a≤(s.length:Int)∧parseT s f=badM c a):=by
 unfold parseT
 split
 · exact Or.inr ⟨29,0,by decide,by omega,by omega,rfl⟩
 · split
   · exact Or.inr ⟨12,0,by decide,by omega,by omega,rfl⟩
   · split
     · rcases zkc s with ⟨c,a,h,h1,h2,h3⟩ | ⟨_,_,_,_,_,_,_,_,_,_,_,_,_,h⟩
       · rw [zkk] at h
         exact Or.inr ⟨c,a,h1,h2,h3,Option.some.inj h⟩
       · rw [zkk] at h
         rw [Option.some.inj h]
         exact Or.inl ⟨rfl,(show (1:Nat)≤64 by omega),(show (0:Nat)≤32 by omega)⟩
     · split
       · rcases zkj s with ⟨h,hI⟩ | ⟨e,a,h1,h2,h3,h⟩
         · exact Or.inl ⟨h,hI.vs.2.2,hI.tg.2.1⟩
         · exact Or.inr ⟨e,a,h1,h2,h3,h⟩
       · rcases zr2 s with ⟨c,a,h,h1,h2,h3⟩ | ⟨_,_,_,_,_,_,_,_,_,_,_,h⟩
         · exact Or.inr ⟨c,a,h1,h2,h3,h⟩
         · rw [h]
           exact Or.inl ⟨rfl,(show (1:Nat)≤64 by omega),(show (0:Nat)≤32 by omega)⟩
end Go.AM
set_option linter.unusedVariables false
set_option linter.unusedSimpArgs false
namespace Go.AM
abbrev MetL:=List UInt8×Int×List DecL×Int×List TagL×Int
def toL (m:MetD):MetL:=(m.1,m.2.1,m.2.2.1,m.2.2.2.1,m.2.2.2.2.1,m.2.2.2.2.2.1)
def opM (m:MetL):MetD:=(m.1,m.2.1,m.2.2.1,m.2.2.2.1,m.2.2.2.2.1,m.2.2.2.2.2,())
def BatOK (l:List MetL):Prop:=∀ m∈l,MetOK (opM m)
def RightB (l:List MetL):Prop:=l.length≤1000∧∀ m∈l,RightM (opM m)∧StrictT m.2.2.2.2.1
theorem RightB.ok {l:List MetL} (h:RightB l):BatOK l:=fun m hm=>(h.2 m hm).1.ok
end Go.AM
set_option linter.unusedVariables false
set_option linter.unusedSimpArgs false
namespace Go.AM
end Go.AM
set_option linter.unusedVariables false
set_option linter.unusedSimpArgs false
namespace Go.AM
def SmallL (l:List MetL):Prop:=∀ x∈l,x.2.2.1.length≤1000∧x.2.2.2.2.1.length≤1000
theorem zk9 (n:Nat) (hn:200000≤n) (X:Type) (k0:Unit→Option X) (kr:Bool→Option X) (l:List MetL) (hl:l.length≤1000) (hs:SmallL l):∀ (j i m:Nat),i+j=l.length→j<m→F.zq.L4 n k0 kr m l l (i:Int)=k0 ():=by
 intro j
 induction j with
 | zero =>
  intro i m h1 hm
  obtain ⟨m,rfl⟩:∃ q,m=q+1:=⟨m - 1,by omega⟩
  rw [F.zq.L4]
  unfold F.zq.L4.step
  dsimp only
  rw [zi (by omega)]
 | succ j ih =>
  intro i m h1 hm
  obtain ⟨m,rfl⟩:∃ q,m=q+1:=⟨m - 1,by omega⟩
  have hx:=hs l[i] (List.getElem_mem (by omega))
  have he:F.zh n (l[i].1,l[i].2.1,l[i].2.2.1,l[i].2.2.2.1,l[i].2.2.2.2.1,l[i].2.2.2.2.2,()) (l[i].1,l[i].2.1,l[i].2.2.1,l[i].2.2.2.1,l[i].2.2.2.2.1,l[i].2.2.2.2.2,())=some true:=
   ziu n hn (l[i].1,l[i].2.1,l[i].2.2.1,l[i].2.2.2.1,l[i].2.2.2.2.1,l[i].2.2.2.2.2,()) (by have:=hx.1; show l[i].2.2.1.length≤_; omega) (by have:=hx.2; show l[i].2.2.2.2.1.length≤_; omega)
  rw [F.zq.L4]
  unfold F.zq.L4.step
  dsimp only
  rw [zf (by omega),zam (by omega:i<l.length),za,za,he,za,Bool.not_true,cond_false,zh (by omega),ih (i+1) m (by omega) (by omega)]
theorem zla (n:Nat) (hn:200000≤n) (l:List MetL) (hl:l.length≤1000) (hs:SmallL l):F.zq n l l=some true:=by
 unfold F.zq
 rw [beq_self_eq_true,Bool.not_true,cond_false]
 exact zk9 n hn Bool _ _ l hl hs l.length 0 n (by omega) (by omega)
end Go.AM
set_option linter.unusedVariables false
set_option linter.unusedSimpArgs false
namespace Go.AM
abbrev EvL:=Int×Int×Int×List MetL×Int×Int
abbrev LnL:=Int×Int×List UInt8×Bool
theorem zas {X:Type} (a:Option (List AV)) (k:Option X):eqK a a k=k:=by unfold eqK; rw [if_pos rfl]
theorem zl3 (n:Nat) {s:List UInt8} (h:s≠[]) (hs:s.length≤1000000):F.zam n s [10]=some (seg 10 s,restN 10 s,decide (10∈s),()):=by
 unfold F.zam
 have hi:O.bindex n s [10]=some (Lib.indexByte s 10):=by
  cases s with
  | nil=>exact absurd rfl h
  | cons x s=>rfl
 rw [hi,za,zl0]
 by_cases hm:10∈s
 · have hl:=za2 hm
   rw [if_pos hm,zf (by omega),decide_eq_true hm]
   have e1:sub s 0 ((seg 10 s).length:Int)=some (seg 10 s):=by
    have:=zr s 0 (seg 10 s).length (by omega) (by omega)
    rw [List.drop_zero,zf2] at this
    exact this
   have e2:sub s (((seg 10 s).length+1:Nat):Int) (s.length:Int)=some (restN 10 s):=by
    rw [zaz (by omega)]
    unfold restN
    rw [if_pos hm]
   rw [e1,za]
   show (sub s (IntKind.wrap .i64 (((seg 10 s).length:Int)+1)) _).bind _=_
   rw [zh (by omega),e2]
   rfl
 · rw [if_neg hm,zi (by omega),decide_eq_false hm]
   unfold restN
   rw [if_neg hm,zba hm]
def lineEv (f:Int) (x:LnL):EvL:=
 if x.2.2.2=true then (2,x.1,x.2.1,[],12,x.1) else if (parseT x.2.2.1 f).2.1.1=0 then (1,x.1,x.2.1,[toL (parseT x.2.2.1 f).1],0,0) else (2,x.1,x.2.1,[],(parseT x.2.2.1 f).2.1.1,x.1+(parseT x.2.2.1 f).2.1.2.1)
theorem growE {X:Type} {v:List EvL} (h:v.length≤100000) (y:Option X):(bif decide ((v.length+1)*64≤2 ^ 46)&&decide (0<64∧64≤2 ^ 20) then y else none)=y:=by
 rw [decide_eq_true (by omega)]; rfl
theorem growN {X:Type} {v:List LnL} (h:v.length≤100000) (y:Option X):(bif decide ((v.length+1)*40≤2 ^ 46)&&decide (0<40∧40≤2 ^ 20) then y else none)=y:=by
 rw [decide_eq_true (by omega)]; rfl
theorem zsc (n:Nat) (hn:200000≤n) (X:Type) (k0:Int→Bool→Bool→Int→Int→Int→List UInt8→Bool→List EvL→List UInt8→List LnL→List UInt8→Nat→Nat→Option X) (f:Int) (ls:List LnL) (hl:ls.length≤100000) (hx:∀ x∈ls,x.2.2.1.length≤100000∧0≤x.1∧x.1≤1000000)
 (b4 b5:Bool) (c0 c1 c2:Int) (c3:List UInt8) (c4:Bool) (d4:List UInt8) (d6:List LnL) (d7:List UInt8) (q0 q1:Nat) :
 ∀ (r:List LnL) (i m:Nat) (out:List EvL),ls.drop i=r→out.length≤i→r.length<m →
 F.zd.L2_sess_Sess_text_1 n k0 m ls (ls.length:Int) (i:Int) f b4 b5 c0 c1 c2 c3 c4 out d4 d6 d7 q0 q1 out.length=k0 f b4 b5 c0 c1 c2 c3 c4 (out++r.map (lineEv f)) d4 d6 d7 q1 (out++r.map (lineEv f)).length:=by
 intro r
 induction r with
 | nil =>
  intro i m out hi ho hm
  have:=zaw hi
  obtain ⟨m,rfl⟩:∃ q,m=q+1:=⟨m - 1,by omega⟩
  rw [F.zd.L2_sess_Sess_text_1]
  unfold F.zd.L2_sess_Sess_text_1.step
  dsimp only
  rw [zi (by omega),List.map_nil,List.append_nil]
 | cons x r ih =>
  intro i m out hi ho hm
  obtain ⟨g1,g2,g3⟩:=zan hi
  obtain ⟨m,rfl⟩:∃ q,m=q+1:=⟨m - 1,by omega⟩
  obtain ⟨hx1,hx2,hx3⟩:=hx x (List.mem_of_getElem? g2)
  have next:∀ y:EvL,y=lineEv f x→F.zd.L2_sess_Sess_text_1 n k0 m ls (ls.length:Int) ((i+1:Nat):Int) f b4 b5 c0 c1 c2 c3 c4 (out++[y]) d4 d6 d7 q0 q1 (out++[y]).length=k0 f b4 b5 c0 c1 c2 c3 c4 (out++(x::r).map (lineEv f)) d4 d6 d7 q1 (out++(x::r).map (lineEv f)).length:=by
   rintro y rfl
   refine (ih (i+1) m _ g3 (by simp; omega) (by simp at hm; omega)).trans ?_
   simp only [List.append_assoc,List.singleton_append,List.map_cons]
  rw [F.zd.L2_sess_Sess_text_1]
  unfold F.zd.L2_sess_Sess_text_1.step
  dsimp only
  rw [zf (by omega),za3,g2,za,zh (by omega)]
  cases hL:x.2.2.2
  · rw [cond_false,zeu n hn _ (by omega),za]
    rcases zkl x.2.2.1 f with ⟨p1,p2,p3⟩ | ⟨c,a,hc,ha,hb,hp⟩
    · rw [p1]
      rw [show (!(((0:Int),(0:Int),()).1==0&&((0:Int),(0:Int),()).2.1==0))=false from rfl,cond_false,growE (by omega),Nat.beq_refl,cond_true]
      refine next _ ?_
      unfold lineEv
      rw [if_neg (by rw [hL]; decide),p1,if_pos rfl]
      rfl
    · rw [hp]
      have hb0:(c==0)=false:=beq_eq_false_iff_ne.2 hc
      rw [show (badM c a).2.1.1=c from rfl,show (badM c a).2.1.2.1=a from rfl,hb0,Bool.false_and,Bool.not_false,cond_true,growE (by omega),Nat.beq_refl,cond_true,ze (by omega)]
      refine next _ ?_
      unfold lineEv
      rw [if_neg (by rw [hL]; decide),hp,if_neg (by exact hc)]
  · rw [cond_true,growE (by omega),Nat.beq_refl,cond_true]
    refine next _ ?_
    unfold lineEv
    rw [if_pos hL]
def lnS (mo:Int):List (List UInt8)→Nat→List LnL
 | [],_=>[]
 | [_],_=>[]
 | p::q::r,a=>((a:Int),((a+p.length+1:Nat):Int),(if (p.length:Int)>mo then [] else p),decide ((p.length:Int)>mo))::lnS mo (q::r) (a+p.length+1)
def lstS:List (List UInt8)→List UInt8
 | []=>[]
 | [p]=>p
 | _::q::r=>lstS (q::r)
theorem zpj {p:List UInt8} {l:List (List UInt8)} (h:l≠[]):lstS (p::l)=lstS l:=by
 cases l with
 | nil=>exact absurd rfl h
 | cons q r=>rfl
theorem zsd (mo:Int) {p:List UInt8} {l:List (List UInt8)} (h:l≠[]) (a:Nat):lnS mo (p::l) a=((a:Int),((a+p.length+1:Nat):Int),(if (p.length:Int)>mo then [] else p),decide ((p.length:Int)>mo))::lnS mo l (a+p.length+1):=by
 cases l with
 | nil=>exact absurd rfl h
 | cons q r=>rfl
theorem zev (c:UInt8) (s:List UInt8):splitL c s≠[]:=by
 rw [zbn]
 split<;>simp
theorem zew {s:List UInt8} (h:10∈s):(restN 10 s).length+(seg 10 s).length+1=s.length:=by
 have:=za2 h
 unfold restN
 rw [if_pos h,List.length_drop]
 omega
theorem zt7 (n:Nat) (X:Type) (k0:Int→Bool→Bool→Int→Int→Int→List UInt8→Bool→List EvL→List UInt8→List LnL→List UInt8→Nat→Nat→Nat→Option X) (f mo:Int) (hmo:1≤mo) (b4 b5 c4:Bool) (ev:List EvL) (d4:List UInt8) (q1:Nat) :
 ∀ (m:Nat) (s:List UInt8) (a:Nat) (out:List LnL),s.length<m→a+s.length≤100000→out.length≤a →
 ∃ op t,F.zd.L0_line_pieces_1 n k0 m f b4 b5 mo (a:Int) (a:Int) [] c4 ev d4 out s 0 q1 out.length =
  k0 f b4 b5 mo ((a+s.length:Nat):Int) ((a+s.length - (lstS (splitL 10 s)).length:Nat):Int) op c4 ev d4 (out++lnS mo (splitL 10 s) a) [] t q1 (out++lnS mo (splitL 10 s) a).length:=by
 have fin:∀ (m:Nat) (at' fr:Int) (op:List UInt8) (out:List LnL) (t:Nat),F.zd.L0_line_pieces_1 n k0 (m+1) f b4 b5 mo at' fr op c4 ev d4 out [] t q1 out.length=k0 f b4 b5 mo at' fr op c4 ev d4 out [] t q1 out.length:=fun m at' fr op out t=>rfl
 intro m
 induction m with
 | zero=>intro s a out h; omega
 | succ m ih =>
  intro s a out hm ha ho
  by_cases hs:s=[]
  · subst hs
    refine ⟨[],0,(fin m _ _ _ _ _).trans ?_⟩
    show _=k0 f b4 b5 mo _ _ _ _ _ _ (out++[]) _ _ _ (out++[]).length
    rw [List.append_nil]
    rfl
  have hlen:0<s.length:=List.length_pos_iff.2 hs
  have hsl:=zad 10 s
  have e1:IntKind.wrap .i64 ((a:Int)+((seg 10 s).length:Int))=((a+(seg 10 s).length:Nat):Int):=by rw [ze (by omega)]; omega
  have e2:IntKind.wrap .i64 (((a+(seg 10 s).length:Nat):Int)+1)=((a+(seg 10 s).length+1:Nat):Int):=zh (by omega)
  have e3:IntKind.wrap .i64 (((a+(seg 10 s).length+1:Nat):Int) - 1)=((a+(seg 10 s).length:Nat):Int):=by rw [ze (by omega)]; omega
  have e4:IntKind.wrap .i64 (((a+(seg 10 s).length:Nat):Int) - (a:Int))=((seg 10 s).length:Int):=by rw [ze (by omega)]; omega
  rw [F.zd.L0_line_pieces_1]
  unfold F.zd.L0_line_pieces_1.step
  dsimp only
  rw [zf (by omega)]
  have hc:F.zam n s [UInt8.ofNat ((10:Int)).toNat]=some (seg 10 s,restN 10 s,decide (10∈s),()):=zl3 n hs (by omega)
  rw [hc,za]
  dsimp only
  simp only [e1,e2,e3,e4,zas]
  by_cases hin:10∈s
  · have hr:=zew hin
    have hS:splitL 10 s=seg 10 s::splitL 10 (restN 10 s):=by rw [zbn,if_pos hin]
    have hne:=zev 10 (restN 10 s)
    have next:∀ x:LnL,x=((a:Int),((a+(seg 10 s).length+1:Nat):Int),(if ((seg 10 s).length:Int)>mo then [] else seg 10 s),decide (((seg 10 s).length:Int)>mo)) →
     ∃ op t,F.zd.L0_line_pieces_1 n k0 m f b4 b5 mo ((a+(seg 10 s).length+1:Nat):Int) ((a+(seg 10 s).length+1:Nat):Int) [] c4 ev d4 (out++[x]) (restN 10 s) 0 q1 (out++[x]).length =
      k0 f b4 b5 mo ((a+s.length:Nat):Int) ((a+s.length - (lstS (splitL 10 s)).length:Nat):Int) op c4 ev d4 (out++lnS mo (splitL 10 s) a) [] t q1 (out++lnS mo (splitL 10 s) a).length:=by
     rintro x rfl
     obtain ⟨op,t,h⟩:=ih (restN 10 s) (a+(seg 10 s).length+1) (out++[((a:Int),((a+(seg 10 s).length+1:Nat):Int),(if ((seg 10 s).length:Int)>mo then [] else seg 10 s),decide (((seg 10 s).length:Int)>mo))]) (by omega) (by omega) (by simp; omega)
     refine ⟨op,t,h.trans ?_⟩
     rw [hS,zpj hne,zsd mo hne,show a+(seg 10 s).length+1+(restN 10 s).length=a+s.length from by omega]
     simp only [List.append_assoc,List.singleton_append]
    rw [decide_eq_true hin]
    by_cases hlong:((seg 10 s).length:Int)>mo
    · rw [if_pos hlong,decide_eq_true hlong] at next
      simp only [decide_eq_true hlong,cond_true,Bool.not_true,cond_false]
      rw [growN (by omega),Nat.beq_refl,cond_true]
      exact next _ rfl
    · rw [if_neg hlong,decide_eq_false hlong] at next
      have hsub:sub ([]:List UInt8) (0:Int) (([]:List UInt8).length:Int)=some []:=rfl
      simp only [decide_eq_false hlong,cond_true,Bool.not_false,cond_false,beq_self_eq_true,hsub,za,List.nil_append]
      rw [show (decide ((([]:List UInt8).length+(seg 10 s).length)*1≤2 ^ 46)&&decide (0<1∧1≤2 ^ 20))=true from by rw [decide_eq_true (by simp; omega)]; rfl,cond_true,growN (by omega),Nat.beq_refl,cond_true]
      exact next _ rfl
  · have hS:splitL 10 s=[s]:=by rw [zbn,if_neg hin]
    have hseg:=zba hin
    have hrest:restN 10 s=[]:=by unfold restN; rw [if_neg hin]
    obtain ⟨m,rfl⟩:∃ q,m=q+1:=⟨m - 1,by omega⟩
    have key:∀ op t,∃ op' t',F.zd.L0_line_pieces_1 n k0 (m+1) f b4 b5 mo ((a+s.length:Nat):Int) (a:Int) op c4 ev d4 out [] t q1 out.length =
     k0 f b4 b5 mo ((a+s.length:Nat):Int) ((a+s.length - (lstS (splitL 10 s)).length:Nat):Int) op' c4 ev d4 (out++lnS mo (splitL 10 s) a) [] t' q1 (out++lnS mo (splitL 10 s) a).length:=fun op t=>by
     refine ⟨op,t,(fin m _ _ _ _ _).trans ?_⟩
     rw [hS,show lstS [s]=s from rfl,show lnS mo [s] a=[] from rfl,List.append_nil,show a+s.length - s.length=a from by omega]
    rw [decide_eq_false hin,hseg,hrest]
    by_cases hlong:(s.length:Int)>mo
    · simp only [decide_eq_true hlong,cond_true,cond_false]
      exact key _ _
    · have hsub:sub ([]:List UInt8) (0:Int) (([]:List UInt8).length:Int)=some []:=rfl
      simp only [decide_eq_false hlong,cond_true,Bool.not_false,cond_false,beq_self_eq_true,hsub,za,List.nil_append]
      rw [show (decide ((([]:List UInt8).length+s.length)*1≤2 ^ 46)&&decide (0<1∧1≤2 ^ 20))=true from by rw [decide_eq_true (by simp; omega)]; rfl,cond_true]
      exact key _ _
theorem zpk (mo:Int):∀ (ps:List (List UInt8)) (a L:Nat),(∀ p∈ps,p.length≤100000)→(a:Nat)+((ps.map fun p=>p.length+1).sum)≤L→L≤1000000→∀ x∈lnS mo ps a,x.2.2.1.length≤100000∧0≤x.1∧x.1≤1000000
 | [],_,_,_,_,_,x,hx=>by cases hx
 | [_],_,_,_,_,_,x,hx=>by cases hx
 | p :: q::r,a,L,hp,hs,hL,x,hx=>by
  simp only [List.map_cons,List.sum_cons] at hs
  rcases List.mem_cons.1 hx with rfl | hx
  · refine ⟨?_,by simp,by simp; omega⟩
    show (if (p.length:Int)>mo then [] else p).length≤_
    split
    · simp
    · exact hp p (by simp)
  · exact zpk mo (q::r) (a+p.length+1) L (fun y hy=>hp y (by simp [hy])) (by simp only [List.map_cons,List.sum_cons]; omega) hL x hx
theorem znh (s:List UInt8):∀ m,s.length<m→((splitL 10 s).map fun p=>p.length+1).sum=s.length+1:=by
 intro m
 induction m generalizing s with
 | zero=>intro h; omega
 | succ m ih =>
  intro hm
  rw [zbn]
  by_cases h:10∈s
  · have hr:=zew h
    rw [if_pos h,List.map_cons,List.sum_cons,ih (restN 10 s) (by omega)]
    omega
  · rw [if_neg h]; simp
theorem zgw (s:List UInt8):∀ m,s.length<m→∀ p∈splitL 10 s,p.length≤s.length∧10∉p:=by
 intro m
 induction m generalizing s with
 | zero=>intro h; omega
 | succ m ih =>
  intro hm p hp
  rw [zbn] at hp
  by_cases h:10∈s
  · have hr:=zew h
    rw [if_pos h] at hp
    rcases List.mem_cons.1 hp with rfl | hp
    · exact ⟨zad 10 s,zdn 10 s⟩
    · obtain ⟨h1,h2⟩:=ih (restN 10 s) (by omega) p hp
      exact ⟨by omega,h2⟩
  · rw [if_neg h] at hp
    rw [List.mem_singleton.1 hp]
    exact ⟨Nat.le_refl _,h⟩
theorem zl4 (mo:Int):∀ (ps:List (List UInt8)) (a:Nat),(lnS mo ps a).length≤(ps.map fun p=>p.length+1).sum
 | [],_=>by simp [lnS]
 | [_],_=>by simp [lnS]
 | p::q::r,a=>by
  have:=zl4 mo (q::r) (a+p.length+1)
  rw [List.map_cons,List.sum_cons]
  simp only [lnS,List.length_cons] at this ⊢
  omega
def tailE (p:List UInt8) (a:Nat):List EvL:=if p=[] then [] else [(3,(a:Int),((a+p.length:Nat):Int),[],30,(a:Int))]
def evS (f mo:Int):List (List UInt8)→Nat→List EvL
 | [],_=>[]
 | [p],a=>tailE p a
 | p::q::r,a=>lineEv f ((a:Int),((a+p.length+1:Nat):Int),(if (p.length:Int)>mo then [] else p),decide ((p.length:Int)>mo))::evS f mo (q::r) (a+p.length+1)
theorem zpl (f mo:Int):∀ (ps:List (List UInt8)) (a:Nat),ps≠[]→evS f mo ps a=(lnS mo ps a).map (lineEv f)++tailE (lstS ps) (a+(ps.map fun p=>p.length+1).sum - 1 - (lstS ps).length)
 | [],_,h=>absurd rfl h
 | [p],a,_=>by
  show tailE p a=[]++tailE p (a+([p.length+1]:List Nat).sum - 1 - p.length)
  rw [List.nil_append,show a+([p.length+1]:List Nat).sum - 1 - p.length=a from by simp]
 | p::q::r,a,_=>by
  have:=zpl f mo (q::r) (a+p.length+1) (by simp)
  show lineEv f _::evS f mo (q::r) (a+p.length+1)=lineEv f _::(lnS mo (q::r) (a+p.length+1)).map (lineEv f)++_
  rw [this,List.cons_append]
  congr 2
  rw [show lstS (p::q::r)=lstS (q::r) from rfl,List.map_cons (a:=p),List.sum_cons]
  congr 1
  omega
abbrev WhoR:=List EvL×Int×Unit
theorem zup (n:Nat) (kr:List EvL→Int→Nat→Option WhoR) (hr:∀ a b k,kr a b k=some (a,b,())) (l m:List EvL) (h:l.length+m.length≤1000000) (k:Nat):F.zd.C8 n kr 0 l m l.length k=some (l++m,0,()):=by
 unfold F.zd.C8
 rw [show (!((0:Int)==0))=false from rfl,cond_false,show (decide ((l.length+m.length)*64≤2 ^ 46)&&decide (0<64∧64≤2 ^ 20))=true from by rw [decide_eq_true (by omega)]; rfl,cond_true,Nat.beq_refl,cond_true,hr]
theorem zuq (n:Nat) (kr krx:List EvL→Int→Nat→Option WhoR) (hr:∀ a b k,kr a b k=some (a,b,())) (f mo:Int) (hf:f=1∨f=2∨f=3) (l:List EvL) (hl:l.length≤100000) (fr:Nat) (p op:List UInt8) (k:Nat) :
 F.zd.C5 n kr krx 0 l f false false mo ((fr+p.length:Nat):Int) (fr:Int) op false l.length k=some (l++tailE p fr,0,()):=by
 have h8:∀ (m:List EvL) (t:Nat),m.length≤1→F.zd.C8 n (fun a b k=>kr a b k) 0 l m l.length t=some (l++m,0,()):=fun m t hm=>zup n _ hr l m (by omega) t
 unfold F.zd.C5
 rw [show (!((0:Int)==0))=false from rfl,cond_false,cond_false,cond_false,beq_eq_false_iff_ne.2 (by omega:f≠4),cond_false,cond_false]
 unfold tailE
 by_cases h:p=[]
 · subst h
   rw [if_pos rfl,show (((fr+([]:List UInt8).length:Nat):Int)==(fr:Int))=true from by simp,cond_true]
   exact h8 [] _ (by simp)
 · have hp:0<p.length:=List.length_pos_iff.2 h
   rw [if_neg h,beq_eq_false_iff_ne.2 (by omega),cond_false]
   cases decide (IntKind.wrap .i64 (((fr+p.length:Nat):Int) - (fr:Int))>mo)
   · exact h8 [(3,(fr:Int),((fr+p.length:Nat):Int),[],30,(fr:Int))] 1 (by simp)
   · exact h8 [(3,(fr:Int),((fr+p.length:Nat):Int),[],30,(fr:Int))] 1 (by simp)
theorem zni (n:Nat) (hn:200000≤n) (f mo:Int) (hf:f=1∨f=2∨f=3) (h1:1≤mo) (h2:mo≤8192) (b:List UInt8) (hb:b.length≤10000):F.zd n f mo b=some (evS f mo (splitL 10 b) 0,0,()):=by
 have hsum:=znh b _ (Nat.lt_succ_self _)
 have hlnl:=zl4 mo (splitL 10 b) 0
 have hok:=zpk mo (splitL 10 b) 0 (b.length+1) (fun p hp=>by have:=(zgw b _ (Nat.lt_succ_self _) p hp).1; omega) (by omega) (by omega)
 have hev:evS f mo (splitL 10 b) 0=(lnS mo (splitL 10 b) 0).map (lineEv f)++tailE (lstS (splitL 10 b)) (b.length - (lstS (splitL 10 b)).length):=by
  rw [zpl f mo _ 0 (zev 10 b),hsum]
  congr 2
  omega
 have hlst:(lstS (splitL 10 b)).length≤b.length:=by
  have:∀ l:List (List UInt8),l≠[]→lstS l∈l:=by
   intro l
   induction l with
   | nil=>intro h; exact absurd rfl h
   | cons p l ih =>
    intro _
    cases l with
    | nil=>simp [lstS]
    | cons q r=>exact List.mem_cons_of_mem _ (ih (by simp))
  exact (zgw b _ (Nat.lt_succ_self _) _ (this _ (zev 10 b))).1
 have hat:(((0+b.length:Nat)):Int)=((b.length - (lstS (splitL 10 b)).length+(lstS (splitL 10 b)).length:Nat):Int):=by omega
 have hfr:((0+b.length - (lstS (splitL 10 b)).length:Nat):Int)=((b.length - (lstS (splitL 10 b)).length:Nat):Int):=by omega
 have hml:((lnS mo (splitL 10 b) 0).map (lineEv f)).length≤100000:=by rw [List.length_map]; omega
 unfold F.zd
 rcases hf with rfl | rfl | rfl
 all_goals
  first
   | rw [show ((1:Int)==1)=true from rfl]
   | rw [show ((2:Int)==1)=false from rfl,show ((2:Int)==2)=true from rfl]
   | rw [show ((3:Int)==1)=false from rfl,show ((3:Int)==2)=false from rfl,show ((3:Int)==3)=true from rfl]
  simp only [cond_true,cond_false]
  rw [zi (by omega),zi (by omega)]
  obtain ⟨op,t,h⟩:=zt7 n WhoR _ _ mo h1 false false false [] b 0 n b 0 [] (by omega) (by omega) (by simp)
  refine h.trans ?_
  rw [List.nil_append]
  refine (zsc n hn WhoR _ _ (lnS mo (splitL 10 b) 0) (by omega) hok false false mo _ _ op false b _ [] _ t (lnS mo (splitL 10 b) 0) 0 n [] rfl (by simp) (by omega)).trans ?_
  rw [List.nil_append,cond_false,hat,hfr,hev]
  exact zuq n _ _ (fun _ _ _=>rfl) _ mo (by omega) _ hml _ _ op t
end Go.AM
set_option linter.unusedVariables false
set_option linter.unusedSimpArgs false
namespace Go.AM
theorem bq {X:Type} {Q:X→Prop} {c:Bool} {a b:X} (h1:c=true→Q a) (h2:c=false→Q b):Q (bif c then a else b):=by
 cases c
 · exact h2 rfl
 · exact h1 rfl
theorem wlo (x:Int) : -9223372036854775808≤IntKind.wrap .i64 x∧IntKind.wrap .i64 x≤9223372036854775807:=by
 rw [IntKind.wrap_i64]; omega
theorem zkm (n:Nat) {l:List UInt8} (h:l.length≤70368744177664):F.zab n l=some l:=by
 unfold F.zab
 cases l with
 | nil=>exact if_pos rfl
 | cons x l =>
  simp only [List.length_cons] at h
  simp only [List.isEmpty_cons,cond_false,List.length_cons,List.nil_append]
  rw [decide_eq_true (by omega)]; rfl
section
variable {X:Type} {Q:Option X→Prop} {n:Nat} {b:List UInt8}
theorem zpm {kn:Int→Int→Option X} {c0 c1 c3 c4:Int} {c2:Bool} (h1:c2=true→Q (kn c0 c1)) (h2:c2=false→Q (kn c3 c4)):Q (F.za.C1_cur_Cur_Fail n kn c0 c1 c2 c3 c4):=by
 unfold F.za.C1_cur_Cur_Fail
 exact bq h1 h2
theorem fail2 {k1 k2:Int→Int→Option X} {e a c d:Int} {g:Bool} (h1:g=true→Q (k1 e a)) (h2:g=false→Q (k1 c d)) (h3:¬ (c=0∧d=0)→Q (k2 c d)) :
 Q (bif (c==(0:Int))&&(d==(0:Int)) then F.za.C1_cur_Cur_Fail n k1 e a g c d else F.za.C1_cur_Cur_Fail n k2 e a false c d):=
 bq (fun _=>zpm h1 h2) (fun h=>zpm (fun h=>by cases h) (fun _=>h3 (by simpa using h)))
theorem zpn {kr:List UInt8→Int→Int→Int→Option X} {c0 p c d:Int} (hb:b.length≤70368744177664) (h0 : -1000000≤c0∧c0≤1000000) (hp:0≤p∧p≤b.length)
 (hk:∀ (l:List UInt8) (p' c' d':Int),0≤p'∧p'≤b.length→(l.length:Int)≤max c0 0→Q (kr l p' c' d')):Q (F.za.C1_cur_Cur_Take n kr c0 b p c d):=by
 unfold F.za.C1_cur_Cur_Take
 have nil:∀ c' d',Q (kr [] p c' d'):=fun c' d'=>hk _ _ _ _ hp (by simp; omega)
 refine bq (fun _=>nil _ _) fun _=>bq (fun _=>fail2 (fun _=>nil _ _) (fun _=>nil _ _) fun _=>nil _ _) fun h1=>bq (fun _=>fail2 (fun _=>nil _ _) (fun _=>nil _ _) fun _=>nil _ _) fun h2 => ?_
 rw [decide_eq_false_iff_not] at h1 h2
 obtain ⟨a,rfl⟩:=Int.eq_ofNat_of_zero_le hp.1
 obtain ⟨k,rfl⟩:=Int.eq_ofNat_of_zero_le (Int.not_lt.1 h1)
 rw [ze (by omega)] at h2
 rw [ze (x:=(a:Int)+(k:Int)) (by omega),ze (by omega),show (a:Int)+(k:Int) - (k:Int)=(a:Int) from by omega,show (a:Int)+(k:Int)=((a+k:Nat):Int) from by omega,zr b a (a+k) (by omega) (by omega),za,zkm n (by simp; omega),za]
 exact hk _ _ _ _ (by omega) (by simp; omega)
theorem zpo {kr:Int→Int→Int→Int→Option X} {p c d:Int} (hb:b.length≤70368744177664) (hp:0≤p∧p≤b.length)
 (hk:∀ (x p' c' d':Int),0≤x∧x≤255→0≤p'∧p'≤b.length→Q (kr x p' c' d')):Q (F.za.C1_cur_Cur_Byte n kr b p c d):=by
 unfold F.za.C1_cur_Cur_Byte
 refine zpn hb (by omega) hp fun l p' c' d' h hl=>bq (fun e => ?_) fun _=>hk _ _ _ _ (by omega) h
 cases l with
 | nil=>simp at e
 | cons x l =>
  have:idx (x::l) 0=some x:=rfl
  rw [this,za]
  exact hk _ _ _ _ (by have:=x.toNat_lt; omega) h
theorem zgx (x y:Int):0≤bitsA .or .u64 x y∧bitsA .or .u64 x y≤18446744073709551615:=by
 have q:(BitVec.ofInt IntKind.u64.bits x|||BitVec.ofInt IntKind.u64.bits y).toNat<18446744073709551616:=(BitVec.ofInt IntKind.u64.bits x|||BitVec.ofInt IntKind.u64.bits y).isLt
 show 0≤IntKind.wrap .u64 ((BitVec.ofInt IntKind.u64.bits x|||BitVec.ofInt IntKind.u64.bits y).toNat:Int)∧IntKind.wrap .u64 ((BitVec.ofInt IntKind.u64.bits x|||BitVec.ofInt IntKind.u64.bits y).toNat:Int)≤_
 generalize (BitVec.ofInt IntKind.u64.bits x|||BitVec.ofInt IntKind.u64.bits y).toNat=k at q
 rw [IntWalk.u64_in _ (by omega)]
 omega
theorem zpp {k0 : Int → Int → Int → Int→Int→Option X} {kr:Int→Int→Int→Int→Int→Int→Option X} (hb:b.length≤70368744177664)
 (h0:∀ (x k p c d:Int),0≤x∧x≤18446744073709551615→0≤p∧p≤b.length→Q (k0 x k p c d)) (hr:∀ (k e p c d:Int),0≤p∧p≤b.length→Q (kr 0 k e p c d)) :
 ∀ (m k:Nat) (v p c d:Int),k≤9→10≤m+k→0≤p∧p≤b.length→Q (F.za.L3_varint_read n k0 kr m v (k:Int) b p c d)
 | 0,k,v,p,c,d,hk,hm,hp=>by omega
 | m + 1, k, v, p, c, d, hk, hm, hp=>by
  show Q (F.za.L3_varint_read.step n (F.za.L3_varint_read n k0 kr m) k0 kr v (k:Int) b p c d)
  unfold F.za.L3_varint_read.step
  refine zpo hb hp fun x p' c' d' hx h=>bq (fun _=>hr _ _ _ _ _ h) fun _ => ?_
  have e1:IntKind.wrap .i64 ((k:Int)+1)=((k+1:Nat):Int):=zh (by omega)
  have e2:IntKind.wrap .i64 (((k+1:Nat):Int) - 1)=(k:Int):=by rw [ze (by omega)]; omega
  have e3:IntKind.wrap .i64 ((7:Int)*(k:Int))=7*(k:Int):=ze (by omega)
  rw [e1,e2,e3]
  have neg:decide ((7:Int)*(k:Int)<0)=false:=decide_eq_false (by omega)
  have go:∀ w,¬ (k:Int)+1=10→Q (F.za.L3_varint_read n k0 kr m w ((k+1:Nat):Int) b p' c' d'):=fun w hw=>zpp hb h0 hr m (k+1) w p' c' d' (by omega) (by omega) h
  refine bq (fun h10=>bq (fun _=>hr _ _ _ _ _ h) fun h1 => ?_) fun h10 => ?_
  · rw [neg,cond_false]
    rw [decide_eq_false_iff_not] at h1
    refine bq (fun h2 => ?_) fun _=>bq (fun _=>bq (fun _=>hr _ _ _ _ _ h) fun _=>h0 _ _ _ _ _ (zgx _ _) h) fun _=>h0 _ _ _ _ _ (zgx _ _) h
    rw [decide_eq_true_iff] at h2
    omega
  · rw [neg,cond_false]
    exact bq (fun _ => go _ (by have:¬ (((k+1:Nat):Int)=10):=by simpa using h10
                                omega)) fun _=>bq (fun _=>bq (fun _=>hr _ _ _ _ _ h) fun _=>h0 _ _ _ _ _ (zgx _ _) h) fun _=>h0 _ _ _ _ _ (zgx _ _) h
theorem zc2 {kr:Int→Int→Int→Int→Option X} {p c d:Int} (hn:2000≤n) (hb:b.length≤70368744177664) (hp:0≤p∧p≤b.length)
 (hk:∀ (x p' c' d':Int),0≤x∧x≤18446744073709551615→0≤p'∧p'≤b.length→Q (kr x p' c' d')):Q (F.za.C1_varint_Read n kr b p c d):=by
 unfold F.za.C1_varint_Read
 refine zpp hb (fun x k p c d hx h=>hk _ _ _ _ hx h) (fun k e p c d h => ?_) n 0 0 p c d (by omega) (by omega) hp
 have z:∀ c' d',Q (kr 0 p c' d'):=fun c' d'=>hk _ _ _ _ (by omega) h
 rw [zas]
 exact bq (fun _=>fail2 (fun _=>z _ _) (fun _=>z _ _) fun _=>z _ _) fun _=>z _ _
theorem zt8 {kr:Int→Int→Int→Int→Option X} {e p c d lo hi:Int} (hn:2000≤n) (hb:b.length≤70368744177664) (hp:0≤p∧p≤b.length) (he:e≠0) (hl:0≤lo∧lo≤hi∧hi≤4611686018427387904)
 (hk:∀ (x p' c' d':Int),(c'=0∧d'=0→lo≤x∧x≤hi)→0≤p'∧p'≤b.length→Q (kr x p' c' d')):Q (F.za.C1_rec_bound_uint64 n kr e b p c d lo hi):=by
 unfold F.za.C1_rec_bound_uint64
 refine zc2 hn hb hp fun x p' c' d' hx h => ?_
 rw [IntWalk.u64_in lo (by omega),IntWalk.u64_in hi (by omega)]
 have bad:∀ {k1 k2:Int→Int→Option X},(∀ c d,k1 c d=kr x p' c d)→(∀ c d,k2 c d=kr x p' c d) →
  Q (bif (c'==(0:Int))&&(d'==(0:Int)) then F.za.C1_cur_Cur_Fail n k1 e p (!(e==(0:Int))) c' d' else F.za.C1_cur_Cur_Fail n k2 e p false c' d'):=fun q1 q2 =>
  fail2 (fun _=>by rw [q1]; exact hk _ _ _ _ (fun h=>absurd h.1 he) h) (fun h=>absurd (by simpa using h) he) fun hcd=>by rw [q2]; exact hk _ _ _ _ (fun h=>absurd h hcd) h
 refine bq (fun h1=>bq (fun _=>bad (fun _ _=>rfl) fun _ _=>rfl) fun h2=>hk _ _ _ _ (fun _ => ?_) h) fun _=>bad (fun _ _=>rfl) fun _ _=>rfl
 rw [decide_eq_true_iff] at h1
 have:x≤hi:=by simpa using h2
 exact ⟨h1,this⟩
theorem zdr {kr:Int→Int→Int→Int→Option X} {e p c d lo hi:Int} (hn:2000≤n) (hb:b.length≤70368744177664) (hp:0≤p∧p≤b.length) (he:e≠0) (hl:0≤lo∧lo≤hi∧hi≤4611686018427387904)
 (hk:∀ (x p' c' d':Int),(c'=0∧d'=0→lo≤x∧x≤hi)→0≤p'∧p'≤b.length→Q (kr x p' c' d')):Q (F.za.C1_rec_number n kr e b p c d lo hi):=by
 unfold F.za.C1_rec_number
 refine zt8 hn hb hp he hl fun x p' c' d' hx h=>hk _ _ _ _ (fun hcd => ?_) h
 have:=hx hcd
 rw [ze (by omega)]
 exact this
def DI (ws:List (List UInt8)) (t:Nat):Prop:=ws.length≤65536∧t=ws.length∧∀ s∈ws,s.length≤200
theorem DI.nil:DI [] 0:=⟨by simp,rfl,fun s h=>by simp at h⟩
theorem zu0 {kr:Bool→Int→Int→Option X} {kind c d q:Int} {s:List UInt8} (hn:2000≤n) (hs:s.length≤200) (hk:∀ r c' d',Q (kr r c' d')):Q (F.za.C1_dict_check n kr kind s c d q):=by
 unfold F.za.C1_dict_check
 rw [zhf n kind s (by omega) (by omega),za]
 exact bq (fun _=>bq (fun _=>hk _ _ _) fun _=>fail2 (fun _=>hk _ _ _) (fun _=>hk _ _ _) fun _=>hk _ _ _) fun _=>fail2 (fun _=>hk _ _ _) (fun _=>hk _ _ _) fun _=>hk _ _ _
theorem zur {kr:Bool→Int→Int→Option X} {kind c d q:Int} {s:List UInt8} (hn:2000≤n) (hs:s.length≤200) (hk:∀ r c' d',Q (kr r c' d')):Q (F.za.C1_dict_check_1 n kr kind s c d q):=by
 unfold F.za.C1_dict_check_1
 rw [zhf n kind s (by omega) (by omega),za]
 exact bq (fun _=>bq (fun _=>hk _ _ _) fun _=>fail2 (fun _=>hk _ _ _) (fun _=>hk _ _ _) fun _=>hk _ _ _) fun _=>fail2 (fun _=>hk _ _ _) (fun _=>hk _ _ _) fun _=>hk _ _ _
abbrev WK (X:Type):=List UInt8→Int→Int→Int→List (List UInt8×Int)→List (List UInt8)→Nat→Option X
theorem zds {kr:WK X} {kind f x p c d:Int} {mp:List (List UInt8×Int)} {ws:List (List UInt8)} {t:Nat} (hn:2000≤n) (hb:b.length≤70368744177664) (hp:0≤p∧p≤b.length) (hx:0≤x∧x≤18446744073709551615) (hd:DI ws t) (hl:ws.length<65536)
 (hk:∀ s (p' c' d':Int) mp' ws' t',0≤p'∧p'≤b.length→DI ws' t'→Q (kr s p' c' d' mp' ws' t')):Q (F.za.C8_dict_Dict_fresh n kr kind f x b p c d mp ws t):=by
 unfold F.za.C8_dict_Dict_fresh
 have hx2:IntKind.wrap .i64 (if (200:Int)<x then (200:Int) else x)≤200∧0≤IntKind.wrap .i64 (if (200:Int)<x then (200:Int) else x):=by
  by_cases h:200<x
  · rw [if_pos h]; decide
  · rw [if_neg h,ze (by omega)]; omega
 refine zpn hb (by omega) hp fun s p' c' d' h hs=>bq (fun _=>hk _ _ _ _ _ _ _ h hd) fun _=>zu0 hn (by omega) fun r c2 d2=>bq (fun _=>hk _ _ _ _ _ _ _ h hd) fun _ => ?_
 unfold mpLook
 cases mpGet mp s with
 | some v=>exact fail2 (fun _=>hk _ _ _ _ _ _ _ h hd) (fun _=>hk _ _ _ _ _ _ _ h hd) fun _=>hk _ _ _ _ _ _ _ h hd
 | none =>
  simp only
  rw [decide_eq_true (show (ws.length+1)*16≤2 ^ 46 by omega),hd.2.1]
  have e:Nat.beq ws.length ws.length=true:=nbeq.2 rfl
  rw [e]
  exact hk _ _ _ _ _ _ _ h ⟨by simp; omega,rfl,fun w hw=>by
   rcases List.mem_append.1 hw with h | h
   · exact hd.2.2 w h
   · rw [List.mem_singleton.1 h]; omega⟩
theorem zt9 {kr:WK X} {kind f p c d:Int} {mp:List (List UInt8×Int)} {ws:List (List UInt8)} {t:Nat} (hn:2000≤n) (hb:b.length≤70368744177664) (hp:0≤p∧p≤b.length) (hd:DI ws t)
 (hk:∀ s (p' c' d':Int) mp' ws' t',0≤p'∧p'≤b.length→DI ws' t'→Q (kr s p' c' d' mp' ws' t')):Q (F.za.C1_dict_Dict_fresh n kr kind f b p c d mp ws t):=by
 unfold F.za.C1_dict_Dict_fresh
 refine bq (fun _=>fail2 (fun _=>hk _ _ _ _ _ _ _ hp hd) (fun _=>hk _ _ _ _ _ _ _ hp hd) fun _=>hk _ _ _ _ _ _ _ hp hd) fun hl => ?_
 rw [decide_eq_false_iff_not] at hl
 exact zc2 hn hb hp fun x p' c' d' hx h=>bq (fun _=>fail2 (fun _=>zds hn hb h hx hd (by omega) hk) (fun _=>zds hn hb h hx hd (by omega) hk) fun _=>zds hn hb h hx hd (by omega) hk) fun _=>zds hn hb h hx hd (by omega) hk
theorem zdt {k0:Int→Option X} (hk:∀ v,Q (k0 v)):∀ (m k:Nat) (c v:Int),k≤256→257≤m+k→Q (F.z8.L5 n k0 m c v (k:Int))
 | 0,k,c,v,h1,h2=>by omega
 | m + 1,k,c,v,h1,h2=>by
  show Q (F.z8.L5.step n (F.z8.L5 n k0 m) k0 c v (k:Int))
  unfold F.z8.L5.step
  refine bq (fun h => ?_) fun _=>hk _
  rw [decide_eq_true_iff] at h
  have e:IntKind.wrap .u8 (k:Int)=((UInt8.ofNat k).toNat:Int):=by
   have:IntKind.wrap .u8 (k:Int)=(k:Int):=by
    show (k:Int) % 256=k
    omega
   rw [this]
   simp
   omega
  rw [e,zso,za,zh (by omega)]
  exact bq (fun _=>zdt hk m (k+1) c _ (by omega) (by omega)) fun _=>zdt hk m (k+1) c _ (by omega) (by omega)
theorem zua (hn:2000≤n) (c:Int):∃ v,F.z8 n c=some v:=by
 unfold F.z8
 rw [zlz,za]
 exact bq (Q:=fun o=>∃ v,o=some v) (fun _=>⟨_,rfl⟩) fun _=>zdt (Q:=fun o=>∃ v,o=some v) (fun v=>⟨_,rfl⟩) n 0 c 0 (by omega) (by omega)
theorem zu1 {kr:WK X} {kind p c d:Int} {mp:List (List UInt8×Int)} {ws:List (List UInt8)} {t:Nat} (hn:2000≤n) (hb:b.length≤70368744177664) (hp:0≤p∧p≤b.length) (hd:DI ws t)
 (hk:∀ s (p' c' d':Int) mp' ws' t',0≤p'∧p'≤b.length→DI ws' t'→Q (kr s p' c' d' mp' ws' t')):Q (F.za.C1_dict_Dict_Get n kr kind b p c d mp ws t):=by
 unfold F.za.C1_dict_Dict_Get
 have z:∀ s (p' c' d':Int),0≤p'∧p'≤b.length→Q (kr s p' c' d' mp ws t):=fun s p' c' d' h=>hk _ _ _ _ _ _ _ h hd
 obtain ⟨v,hv⟩:=zua hn kind
 rw [zas,hv,za]
 refine bq (fun _=>z _ _ _ _ hp) fun _=>bq (fun _=>fail2 (fun _=>z _ _ _ _ hp) (fun _=>z _ _ _ _ hp) fun _=>z _ _ _ _ hp) fun _=>zc2 hn hb hp fun x p' c' d' hx h => ?_
 rw [zas]
 refine bq (fun _=>z _ _ _ _ h) fun _=>bq (fun _=>zt9 hn hb h hd hk) fun h0=>bq (fun _=>fail2 (fun _=>z _ _ _ _ h) (fun _=>z _ _ _ _ h) fun _=>z _ _ _ _ h) fun h1 => ?_
 have h0:¬ x=0:=by simpa using h0
 rw [decide_eq_false_iff_not,IntWalk.u64_in _ (by have:=hd.1; omega)] at h1
 obtain ⟨k,rfl⟩:=Int.eq_ofNat_of_zero_le hx.1
 rw [IntWalk.u64_in _ (by omega),show ((k:Int) - 1)=((k - 1:Nat):Int) from by omega,zam (by omega),za]
 exact zur hn (hd.2.2 _ (List.getElem_mem _)) fun r c2 d2=>bq (fun _=>z _ _ _ _ h) fun _=>z _ _ _ _ h
theorem zkn {kr:WK X} {e p c d kind lo hi:Int} {mp:List (List UInt8×Int)} {ws:List (List UInt8)} {t:Nat} (hn:2000≤n) (hb:b.length≤70368744177664) (hp:0≤p∧p≤b.length) (hd:DI ws t)
 (hk:∀ s (p' c' d':Int) mp' ws' t',0≤p'∧p'≤b.length→DI ws' t'→Q (kr s p' c' d' mp' ws' t')):Q (F.za.C1_rec_word n kr e b p c d mp ws kind lo hi t):=by
 unfold F.za.C1_rec_word F.za.C1_rec_bound_string
 refine zu1 hn hb hp hd fun s p' c' d' mp' ws' t' h hd' => ?_
 have z:∀ c' d',Q (kr s p' c' d' mp' ws' t'):=fun c' d'=>hk _ _ _ _ _ _ _ h hd'
 exact bq (fun _=>bq (fun _=>fail2 (fun _=>z _ _) (fun _=>z _ _) fun _=>z _ _) fun _=>z _ _) fun _=>fail2 (fun _=>z _ _) (fun _=>z _ _) fun _=>z _ _
theorem zus {kr:Int→Int→Int→Int→Option X} {e p c d:Int} (hb:b.length≤70368744177664) (hp:0≤p∧p≤b.length) (hk:∀ (x p' c' d':Int),0≤p'∧p'≤b.length→Q (kr x p' c' d')):Q (F.za.C1_rec_bound_int n kr e b p c d):=by
 unfold F.za.C1_rec_bound_int
 refine zpo hb hp fun x p' c' d' hx h => ?_
 have:∃ v,F.zaw n (IntKind.wrap .i64 x)=some v:=by
  unfold F.zaw
  exact bq (Q:=fun o=>∃ v,o=some v) (fun _=>⟨_,rfl⟩) fun _=>⟨_,rfl⟩
 obtain ⟨v,hv⟩:=this
 rw [hv,za]
 exact bq (fun _=>fail2 (fun _=>hk _ _ _ _ h) (fun _=>hk _ _ _ _ h) fun _=>hk _ _ _ _ h) fun _=>hk _ _ _ _ h
theorem zu2 {kr:Int→Int→Int→Bool→Int→Int→Option X} {p c d:Int} (hn:2000≤n) (hb:b.length≤70368744177664) (hp:0≤p∧p≤b.length) (hk:∀ (p' c' d':Int) (g:Bool) (k e:Int),0≤p'∧p'≤b.length→Q (kr p' c' d' g k e)):Q (F.za.C1_rec_GetDec n kr b p c d):=by
 unfold F.za.C1_rec_GetDec
 refine zc2 hn hb hp fun x p1 c1 d1 hx h1 => ?_
 have:∃ v,F.zar n (shrA .u64 x 1)=some v ∧ -9223372036854775808≤v∧v≤9223372036854775807:=by
  unfold F.zar
  exact bq (Q:=fun o=>∃ v,o=some v ∧ -9223372036854775808≤v∧v≤9223372036854775807) (fun _=>⟨_,rfl,wlo _⟩) fun _=>⟨_,rfl,wlo _⟩
 obtain ⟨v,hv,hr⟩:=this
 rw [hv,za]
 refine zc2 hn hb h1 fun y p2 c2 d2 hy h2 => ?_
 obtain ⟨k,rfl⟩:=Int.eq_ofNat_of_zero_le hy.1
 rw [zrq n (by omega) _ k (by show k<18446744073709551616; omega) v hr,za]
 have z:∀ {c' d':Int} {a:Option X} {b':Option X},Q a→Q b'→Q (bif !((c'==(0:Int))&&(d'==(0:Int))) then a else b'):=fun ha hb=>bq (fun _=>ha) fun _=>hb
 exact bq (fun _=>fail2 (fun _=>z (hk _ _ _ _ _ _ h2) (hk _ _ _ _ _ _ h2)) (fun _=>z (hk _ _ _ _ _ _ h2) (hk _ _ _ _ _ _ h2)) fun _=>z (hk _ _ _ _ _ _ h2) (hk _ _ _ _ _ _ h2)) fun _=>z (hk _ _ _ _ _ _ h2) (hk _ _ _ _ _ _ h2)
theorem zu3 {kn:Int→Int→Int→Int→List (Bool×Int×Int)→Nat→Option X} {c0 p c d k r tm:Int} {nm:List UInt8} {l:List (Bool×Int×Int)} {tg:List (List UInt8×List UInt8)} {t:Nat} (hn:2000≤n) (hb:b.length≤70368744177664) (hp:0≤p∧p≤b.length) (hl:l.length<64) (ht:t=l.length)
 (hk:∀ (p' c' d':Int) (l':List (Bool×Int×Int)) (t':Nat),0≤p'∧p'≤b.length→l'.length=l.length+1→t'=l'.length→Q (kn (IntKind.wrap .i64 (c0 - 1)) p' c' d' l' t')):Q (F.za.C9_rec_Get n kn c0 b p c d nm k l r tg tm t):=by
 unfold F.za.C9_rec_Get
 refine zu2 hn hb hp fun p' c' d' g k e h => ?_
 rw [zas,decide_eq_true (show (l.length+1)*24≤2 ^ 46 by omega),ht,nbeq.2 (rfl:l.length=l.length)]
 exact hk _ _ _ _ _ h (by simp) rfl
theorem zpq {k0:Int→Int→Int→List (Bool×Int×Int)→Nat→Option X} {k r tm:Int} {nm:List UInt8} {tg:List (List UInt8×List UInt8)} (hn:2000≤n) (hb:b.length≤70368744177664)
 (hk:∀ (p' c' d':Int) (l':List (Bool×Int×Int)) (t':Nat),0≤p'∧p'≤b.length→l'.length≤64→t'=l'.length→Q (k0 p' c' d' l' t')) :
 ∀ (m j:Nat) (v p c d:Int) (l:List (Bool×Int×Int)) (t:Nat),j<m→l.length+j≤64→(c=0∧d=0→v≤j)→0≤p∧p≤b.length→t=l.length→Q (F.za.L7_rec_Get n k0 m v b p c d nm k l r tg tm t)
 | 0,j,v,p,c,d,l,t,h1,h2,h3,hp,ht=>by omega
 | m+1,j,v,p,c,d,l,t,h1,h2,h3,hp,ht=>by
  show Q (F.za.L7_rec_Get.step n (F.za.L7_rec_Get n k0 m) k0 v b p c d nm k l r tg tm t)
  unfold F.za.L7_rec_Get.step
  refine bq (fun hv=>bq (fun hc => ?_) fun _=>hk _ _ _ _ _ hp (by omega) ht) fun _=>hk _ _ _ _ _ hp (by omega) ht
  rw [decide_eq_true_iff] at hv
  have:=h3 (by simpa using hc)
  refine zu3 hn hb hp (by omega) ht fun p' c' d' l' t' h hl ht'=>zpq hn hb hk m (j - 1) _ p' c' d' l' t' (by omega) (by omega) (fun _ => ?_) h ht'
  rw [ze (by omega)]
  omega
theorem zut {kn:Int→Int→Option X} {e k c d:Int} {l:List (List UInt8×List UInt8)} {s t:List UInt8} (hk:∀ c' d',Q (kn c' d')) (he:k=l.length) (hl:l.length≤64):Q (F.za.C21_rec_Get n kn e k c d l s t):=by
 unfold F.za.C21_rec_Get
 have z:∀ g c d,Q (F.za.C22_rec_Get n (fun a b=>kn a b) e g c d):=fun g c d=>by
  unfold F.za.C22_rec_Get
  exact bq (fun _=>fail2 (fun _=>hk _ _) (fun _=>hk _ _) fun _=>hk _ _) fun _=>hk _ _
 refine bq (fun h => ?_) fun _=>z _ _ _
 rw [decide_eq_true_iff] at h
 subst he
 rw [ze (by omega),show (l.length:Int) - 1=((l.length - 1:Nat):Int) from by omega,zam (by omega),za]
 have:∃ v,F.za0 n (l[l.length - 1].1,l[l.length - 1].2,()) (s,t,())=some v:=by
  unfold F.za0
  exact bq (Q:=fun o=>∃ v,o=some v) (fun _=>⟨_,rfl⟩) fun _=>⟨_,rfl⟩
 obtain ⟨v,hv⟩:=this
 rw [hv,za]
 exact z _ _ _
abbrev TK (X:Type):=Int→Int→Int→List (List UInt8×Int)→List (List UInt8)→List (List UInt8×List UInt8)→Nat→Nat→Option X
theorem zu4 {kn:TK X} {e p c d:Int} {mp:List (List UInt8×Int)} {ws:List (List UInt8)} {l:List (List UInt8×List UInt8)} {t u:Nat} (hn:2000≤n) (hb:b.length≤70368744177664) (hp:0≤p∧p≤b.length) (hd:DI ws t) (hl:l.length<32) (hu:u=l.length)
 (hk:∀ (p' c' d':Int) mp' ws' l' t' u',0≤p'∧p'≤b.length→DI ws' t'→l'.length=l.length+1→u'=l'.length→Q (kn p' c' d' mp' ws' l' t' u')):Q (F.za.C18_rec_Get n kn e b p c d mp ws l t u):=by
 unfold F.za.C18_rec_Get
 refine zkn hn hb hp hd fun s p1 c1 d1 mp1 ws1 t1 h1 hd1 => ?_
 unfold F.za.C19_rec_Get
 refine zkn hn hb h1 hd1 fun s2 p2 c2 d2 mp2 ws2 t2 h2 hd2 => ?_
 unfold F.za.C20_rec_Get
 refine zut (fun c3 d3 => ?_) rfl (by omega)
 unfold F.za.C23_rec_Get
 rw [decide_eq_true (show (l.length+1)*32≤2 ^ 46 by omega),hu,nbeq.2 (rfl:l.length=l.length)]
 exact hk _ _ _ _ _ _ _ _ h2 hd2 (by simp) rfl
theorem zpr {k2:TK X} (hn:2000≤n) (hb:b.length≤70368744177664)
 (hk:∀ (p' c' d':Int) mp' ws' l' t' u',0≤p'∧p'≤b.length→DI ws' t'→l'.length≤32→u'=l'.length→Q (k2 p' c' d' mp' ws' l' t' u')) :
 ∀ (m j:Nat) (v p c d:Int) (mp:List (List UInt8×Int)) (ws:List (List UInt8)) (l:List (List UInt8×List UInt8)) (t u:Nat),j<m→l.length+j≤32→(c=0∧d=0→v≤j)→0≤p∧p≤b.length→DI ws t→u=l.length→Q (F.za.L15_rec_Get n k2 m v b p c d mp ws l t u)
 | 0,j,v,p,c,d,mp,ws,l,t,u,h1,h2,h3,hp,hd,hu=>by omega
 | m+1,j,v,p,c,d,mp,ws,l,t,u,h1,h2,h3,hp,hd,hu=>by
  show Q (F.za.L15_rec_Get.step n (F.za.L15_rec_Get n k2 m) k2 v b p c d mp ws l t u)
  unfold F.za.L15_rec_Get.step
  refine bq (fun hv=>bq (fun hc => ?_) fun _=>hk _ _ _ _ _ _ _ _ hp hd (by omega) hu) fun _=>hk _ _ _ _ _ _ _ _ hp hd (by omega) hu
  rw [decide_eq_true_iff] at hv
  have:=h3 (by simpa using hc)
  unfold F.za.C17_rec_Get
  refine zu4 hn hb hp hd (by omega) hu fun p' c' d' mp' ws' l' t' u' h hd' hl hu'=>zpr hn hb hk m (j - 1) _ p' c' d' mp' ws' l' t' u' (by omega) (by omega) (fun _ => ?_) h hd' hu'
  rw [ze (by omega)]
  omega
abbrev GK (X:Type):=Int→Int→Int→List (List UInt8×Int)→List (List UInt8)→List UInt8→Int→List (Bool×Int×Int)→Int→List (List UInt8×List UInt8)→Int→Nat→Nat→Nat→Option X
theorem zu5 {kr:GK X} {p c d:Int} {mp:List (List UInt8×Int)} {ws:List (List UInt8)} {t:Nat} (hn:2000≤n) (hb:b.length≤70368744177664) (hp:0≤p∧p≤b.length) (hd:DI ws t)
 (hk:∀ (p' c' d':Int) mp' ws' nm k vs r tg tm t' u1 u2,0≤p'∧p'≤b.length→DI ws' t'→vs.length≤64→tg.length≤32→Q (kr p' c' d' mp' ws' nm k vs r tg tm t' u1 u2)):Q (F.za.C1_rec_Get n kr b p c d mp ws t):=by
 unfold F.za.C1_rec_Get
 refine bq (fun _=>hk _ _ _ _ _ _ _ _ _ _ _ _ _ _ hp hd (by simp) (by simp)) fun _ => ?_
 unfold F.za.C3_rec_Get
 refine zkn hn hb hp hd fun s p1 c1 d1 mp1 ws1 t1 h1 hd1 => ?_
 unfold F.za.C5_rec_Get
 refine zus hb h1 fun k p2 c2 d2 h2 => ?_
 unfold F.za.C6_rec_Get
 refine zdr hn hb h2 (by decide) (by decide) fun x p3 c3 d3 hx h3 => ?_
 unfold F.za.C7_rec_Get
 refine zpq hn hb (fun p4 c4 d4 vs u4 h4 hv hu4 => ?_) n 64 x p3 c3 d3 [] 0 (by omega) (by simp) (fun h=>(hx h).2) h3 rfl
 unfold F.za.C10_rec_Get
 have z:∀ lo:Int,0≤lo∧lo≤1000000→Q (F.za.C13_rec_Get n (fun a b c d e f g h i j k l m o=>kr a b c d e f g h i j k l m o) lo b p4 c4 d4 mp1 ws1 s k vs [] t1 u4 0):=by
  intro lo hlo
  unfold F.za.C13_rec_Get
  refine zdr hn hb h4 (by decide) (by omega) fun y p5 c5 d5 _ h5 => ?_
  unfold F.za.C14_rec_Get
  refine zdr hn hb h5 (by decide) (by decide) fun q p6 c6 d6 hq h6 => ?_
  unfold F.za.C15_rec_Get
  refine zpr hn hb (fun p7 c7 d7 mp7 ws7 tg t7 u7 h7 hd7 htg hu7 => ?_) n 32 q p6 c6 d6 mp1 ws1 [] t1 0 (by omega) (by simp) (fun h=>(hq h).2) h6 hd1 rfl
  unfold F.za.C24_rec_Get
  refine zdr hn hb h7 (by decide) (by decide) fun w p8 c8 d8 _ h8 => ?_
  unfold F.za.C25_rec_Get
  exact bq (fun _=>hk _ _ _ _ _ _ _ _ _ _ _ _ _ _ h8 hd7 (by simp) (by simp)) fun _=>hk _ _ _ _ _ _ _ _ _ _ _ _ _ _ h8 hd7 hv htg
 exact bq (fun _=>z _ (by decide)) fun _=>z _ (by decide)
abbrev MX:=List UInt8×Int×List (Bool×Int×Int)×Int×List (List UInt8×List UInt8)×Int
def MB (m:MX):Prop:=m.2.2.1.length≤64∧m.2.2.2.2.1.length≤32
theorem zps {k0 k1:List (List UInt8×Int×List (Bool×Int×Int)×Int×List (List UInt8×List UInt8)×Int)→Int→Int→Int→List (List UInt8×Int)→List (List UInt8)→Nat→Nat→Option X} {v:Int} (hn:2000≤n) (hb:b.length≤70368744177664) (hv:v≤1000)
 (h0:∀ l (p c d:Int) mp ws t u,l.length≤1000→(∀ m∈l,MB m)→Q (k0 l p c d mp ws t u)) (h1:∀ l (p c d:Int) mp ws t u,l.length≤1000→(∀ m∈l,MB m)→Q (k1 l p c d mp ws t u)) :
 ∀ (m:Nat) (p c d:Int) l (mp:List (List UInt8×Int)) (ws:List (List UInt8)) (t u:Nat),1001≤m+l.length→l.length≤1000→(∀ m∈l,MB m)→0≤p∧p≤b.length→DI ws u→t=l.length→Q (F.za.L6_frame_Payload_1 n k0 k1 m v (l.length:Int) l b p c d true mp ws t u)
 | 0,p,c,d,l,mp,ws,t,u,hm,hl,hM,hp,hd,ht=>by omega
 | m + 1,p,c,d,l,mp,ws,t,u,hm,hl,hM,hp,hd,ht=>by
  show Q (F.za.L6_frame_Payload_1.step n (F.za.L6_frame_Payload_1 n k0 k1 m) k0 k1 v (l.length:Int) l b p c d true mp ws t u)
  unfold F.za.L6_frame_Payload_1.step
  refine bq (fun h => ?_) fun _=>h0 _ _ _ _ _ _ _ _ hl hM
  rw [decide_eq_true_iff] at h
  refine zu5 hn hb hp hd fun p' c' d' mp' ws' nm k vs r tg tm t' u1 u2 h' hd' hvs htg => ?_
  have hM':∀ x∈l++[(nm,k,vs,r,tg,tm)],MB x:=fun x hx=>by
   rcases List.mem_append.1 hx with h | h
   · exact hM x h
   · rw [List.mem_singleton.1 h]; exact ⟨hvs,htg⟩
  rw [zas,decide_eq_true (show (l.length+1)*88≤2 ^ 46 by omega),ht,nbeq.2 (rfl:l.length=l.length),IntWalk.u64_in _ (by omega)]
  show Q (bif true && !((c'==(0:Int))&&(d'==(0:Int))) then _ else _)
  refine bq (fun _=>h1 _ _ _ _ _ _ _ _ (by simp; omega) hM') fun _ => ?_
  have:=zps hn hb hv h0 h1 m p' c' d' (l++[(nm,k,vs,r,tg,tm)]) mp' ws' _ _ (by simp; omega) (by simp; omega) hM' h' hd' rfl
  rw [show (l.length:Int)+1=((l++[(nm,k,vs,r,tg,tm)]).length:Int) by simp]
  exact this
def PG (o:Option (List MX×(Int×Int×Unit)×Unit)):Prop:=∃ (l:List MX) (c d:Int),o=some (l,(c,d,()),())∧l.length≤1000∧∀ m∈l,MB m
theorem zpt (hn:2000≤n) (hb:b.length≤70368744177664):PG (F.za n b):=by
 unfold F.za
 rw [show Nat.ble b.length 70368744177664=true from nble.2 hb]
 refine zc2 (Q:=PG) hn hb (by omega) fun x p c d hx hp => ?_
 have z:∀ (l:List MX) (c d:Int),l.length≤1000→(∀ m∈l,MB m)→PG (bif !((c==(0:Int))&&(d==(0:Int))) then some ([],(c,d,()),()) else some (l,((0:Int),(0:Int),()),())):=fun l c d h1 h2 =>
  bq (Q:=PG) (fun _=>⟨_,_,_,rfl,by simp,by simp⟩) fun _=>⟨_,_,_,rfl,h1,h2⟩
 have main:∀ c d:Int,(c=0∧d=0→x≤1000)→PG (F.za.C3_frame_Payload_1 n (fun l _ c d _=>bif !((c==(0:Int))&&(d==(0:Int))) then some ([],(c,d,()),()) else some (l,((0:Int),(0:Int),()),()))
  (fun l _ c d _=>bif !((c==(0:Int))&&(d==(0:Int))) then some ([],(c,d,()),()) else some (l,((0:Int),(0:Int),()),())) x [] b p c d true 0):=by
  intro c d hc
  unfold F.za.C3_frame_Payload_1
  refine bq (Q:=PG) (fun _=>z _ _ _ (by simp) (by simp)) fun h => ?_
  have hx:x≤1000:=hc (by simpa using h)
  refine zps (Q:=PG) hn hb hx (fun l p c d mp ws t u hl hM => ?_) (fun l p c d mp ws t u hl hM=>z _ _ _ hl hM) n p c d [] [] [] 0 0 (by simp; omega) (by simp) (by simp) hp DI.nil rfl
  exact bq (Q:=PG) (fun _=>fail2 (Q:=PG) (fun _=>z _ _ _ hl hM) (fun _=>z _ _ _ hl hM) fun _=>z _ _ _ hl hM) fun _=>z _ _ _ hl hM
 refine bq (Q:=PG) (fun _=>fail2 (Q:=PG) (fun _=>main _ _ (fun h=>by omega)) (fun h=>by cases h) fun h=>main _ _ fun hc=>absurd hc h) fun h=>main _ _ fun _ => ?_
 rw [decide_eq_false_iff_not] at h
 omega
end
end Go.AM
set_option linter.unusedVariables false
set_option linter.unusedSimpArgs false
namespace Go.AM
section
variable {X:Type} {Q:Option X→Prop} {n:Nat} {b:List UInt8}
theorem zl5 {k0:Int→Option X} (hk:∀ v,Q (k0 v)):∀ (m k:Nat) (v:Int),k≤8→9≤m+k→Q (F.zag.L2 n k0 m v (k:Int))
 | 0,k,v,h1,h2=>by omega
 | m+1,k,v,h1,h2=>by
  show Q (F.zag.L2.step n (F.zag.L2 n k0 m) k0 v (k:Int))
  unfold F.zag.L2.step
  refine bq (fun h => ?_) fun _=>hk _
  rw [decide_eq_true_iff] at h
  rw [zh (by omega)]
  exact zl5 hk m (k+1) _ (by omega) (by omega)
theorem zub (hn:2000≤n) (x:Int):∃ v,F.zag n x=some v:=zl5 (Q:=fun o=>∃ v,o=some v) (fun v=>⟨_,rfl⟩) n 0 x (by omega) (by omega)
theorem zpu {k0:Int→Option X} (hn:2000≤n) (hb:b.length≤100000000) (hk:∀ v,Q (k0 v)):∀ (m k:Nat) (v:Int),k≤b.length→b.length<m+k→Q (F.zad.L3 n k0 m v b (b.length:Int) (k:Int))
 | 0,k,v,h1,h2=>by omega
 | m+1,k,v,h1,h2=>by
  show Q (F.zad.L3.step n (F.zad.L3 n k0 m) k0 v b (b.length:Int) (k:Int))
  unfold F.zad.L3.step
  refine bq (fun h => ?_) fun _=>hk _
  rw [decide_eq_true_iff] at h
  rw [zam (by omega),za]
  obtain ⟨w,hw⟩:=zub hn (bitsA .xor .u32 v (IntKind.wrap .u32 ((b[k]'(by omega)).toNat)))
  rw [hw,za,zh (by omega)]
  exact zpu hn hb hk m (k+1) _ (by omega) (by omega)
theorem zse (hn:2000≤n) (hb:b.length≤100000000) (hm:b.length<n):∃ v,F.zav n b=some v:=by
 unfold F.zav
 refine bq (Q:=fun o=>∃ v,o=some v) (fun _=>⟨_,rfl⟩) fun h => ?_
 rw [ze (by omega),decide_eq_false_iff_not] at h
 rw [ze (by omega),show (b.length:Int) - 4=((b.length - 4:Nat):Int) from by omega,zr b (b.length - 4) b.length (by omega) (by omega),za,show (0:Int)=((0:Nat):Int) from rfl,zr b 0 (b.length - 4) (by omega) (by omega),za]
 unfold F.za3 F.zad F.za1 F.zau
 obtain ⟨v,hv⟩:=zpu (Q:=fun o=>∃ v,o=some v) (b:=List.drop 0 (List.take (b.length - 4) b)) (n:=n) (k0:=fun e3_5=>some (bitsA .xor .u32 e3_5 (4294967295:Int))) hn (by simp; omega) (fun v=>⟨_,rfl⟩) n 0 (bitsA .xor .u32 0 (4294967295:Int)) (by omega) (by simp; omega)
 have e:((0:Nat):Int)=0:=rfl
 rw [e] at hv ⊢
 rw [hv]
 simp only [za]
 exact bq (Q:=fun o=>∃ v,o=some v) (fun _=>⟨_,rfl⟩) fun _=>⟨_,rfl⟩
theorem or64 {x y:Nat} (hx:x<2097152) (hy:y<2097152):∃ z:Nat,bitsA .or .i64 (x:Int) (y:Int)=(z:Int)∧z<2097152:=by
 refine ⟨x|||y,?_,Nat.or_lt_two_pow (n:=21) hx hy⟩
 have hz:x|||y<2097152:=Nat.or_lt_two_pow (n:=21) hx hy
 show IntKind.wrap .i64 (((BitVec.ofInt 64 (x:Int)|||BitVec.ofInt 64 (y:Int)).toNat:Nat):Int)=_
 rw [BitVec.toNat_or,BitVec.toNat_ofInt,BitVec.toNat_ofInt,show ((x:Int) % ((2 ^ 64:Nat):Int)).toNat=x from by omega,show ((y:Int) % ((2 ^ 64:Nat):Int)).toNat=y from by omega,ze (by omega)]
def HP (b:List UInt8) (a l:Int) (f g:Int):Prop:=a=0∨(4≤a∧a≤6∧a≤b.length∧0≤l∧l≤1048576∧f=0∧g=0)
theorem zpv {k3:Int→Int→Option X} {kr:Int→Int→Int→Int→Option X} (h3:∀ f g,Q (k3 f g)) (hr:∀ a l f g,HP b a l f g→Q (kr a l f g)) {f0 g0:Int} :
 ∀ (m k v:Nat),k≤2→3≤m+k→v<2097152→Q (F.zj.L10 n k3 kr m b (v:Int) ((k+3:Nat):Int) f0 g0)
 | 0,k,v,h1,h2,hv=>by omega
 | m + 1,k,v,h1,h2,hv=>by
  show Q (F.zj.L10.step n (F.zj.L10 n k3 kr m) k3 kr b (v:Int) ((k+3:Nat):Int) f0 g0)
  unfold F.zj.L10.step
  refine bq (fun h => ?_) fun _=>h3 _ _
  rw [decide_eq_true_iff] at h
  rw [zam (by omega),za]
  generalize hx:b[k+3]'(by omega)=x
  have hxl:=x.toNat_lt
  have e1:IntKind.wrap .i64 (x.toNat:Int)=(x.toNat:Int):=ze (by omega)
  have e2:IntKind.wrap .i64 ((7:Int)*(IntKind.wrap .i64 (((k+3:Nat):Int) - (3:Int))))=((7*k:Nat):Int):=by
   rw [ze (x:=((k+3:Nat):Int) - 3) (by omega),ze (by omega)]; omega
  rw [e1,e2]
  have e3:decide (((7*k:Nat):Int)<0)=false:=decide_eq_false (by omega)
  have e4:((x.toNat:Int)).tmod 128=((x.toNat % 128:Nat):Int):=rfl
  have hs:∃ y:Nat,shlA .i64 (((x.toNat:Int)).tmod 128) ((7*k:Nat):Int)=(y:Int)∧y<2097152:=by
   rw [e4]
   have hm:x.toNat % 128<128:=Nat.mod_lt _ (by decide)
   generalize x.toNat % 128=q at hm
   unfold shlA
   have hmin:min (((7*k:Nat):Int)).toNat (IntKind.bits .i64)=7*k:=by
    have:IntKind.bits .i64=64:=rfl
    rw [this]; omega
   rw [hmin]
   have hk:k=0∨k=1∨k=2:=by omega
   rcases hk with rfl | rfl | rfl
   · exact ⟨q,by rw [ze (by omega)]; omega,by omega⟩
   · exact ⟨q*128,by rw [show (2:Int) ^ (7*1)=128 from rfl,ze (by omega)]; omega,by omega⟩
   · exact ⟨q*16384,by rw [show (2:Int) ^ (7*2)=16384 from rfl,ze (by omega)]; omega,by omega⟩
  obtain ⟨y,hy,hyl⟩:=hs
  rw [hy,e3]
  obtain ⟨z,hz,hzl⟩:=or64 hv hyl
  rw [hz]
  have z0:∀ c g,Q (kr 0 0 c g):=fun c g=>hr _ _ _ _ (.inl rfl)
  have fin:decide ((z:Int)>1048576)=false→Q (kr (IntKind.wrap .i64 (((k+3:Nat):Int)+1)) (z:Int) 0 0):=fun h2=>hr _ _ _ _ (.inr (by
   rw [decide_eq_false_iff_not] at h2
   rw [ze (by omega)]
   exact ⟨by omega,by omega,by omega,by omega,by omega,rfl,rfl⟩))
  have go:¬ k=2→Q (F.zj.L10 n k3 kr m b (z:Int) (IntKind.wrap .i64 (((k+3:Nat):Int)+1)) f0 g0):=fun hk=>by
   have:=zpv h3 hr (f0:=f0) (g0:=g0) m (k+1) z (by omega) (by omega) hzl
   rw [zh (by omega)]
   exact this
  have tail:Q (bif (x.toNat:Int)==0 then bif decide (((k+3:Nat):Int)>3) then kr 0 0 21 ((k+3:Nat):Int) else bif decide ((z:Int)>1048576) then kr 0 0 12 ((k+3:Nat):Int) else kr (IntKind.wrap .i64 (((k+3:Nat):Int)+1)) (z:Int) 0 0 else
   bif decide ((z:Int)>1048576) then kr 0 0 12 ((k+3:Nat):Int) else kr (IntKind.wrap .i64 (((k+3:Nat):Int)+1)) (z:Int) 0 0):=
   bq (fun _=>bq (fun _=>z0 _ _) fun _=>bq (fun _=>z0 _ _) fin) fun _=>bq (fun _=>z0 _ _) fin
  refine bq (fun h5=>bq (fun _=>z0 _ _) fun h6 => ?_) fun h5 => ?_
  · rw [h6]
    exact tail
  · rw [cond_false]
    exact bq (fun _ => go (by have:¬ (((k+3:Nat):Int)=5):=by simpa using h5
                              omega)) fun _=>tail
theorem zpw {k0:List UInt8→Int→Int→Option X} {kr:Int→Int→Int→Int→Option X} {t:Int×Int×Int×Int×Int×Int×Unit} {f0 g0:Int} (hb:b.length≤100000000) (h0:Q (k0 b f0 g0)) (hr:∀ f g,Q (kr 0 0 f g)) :
 ∀ (m k:Nat),k≤3→4≤m+k→Q (F.zj.L2 n k0 kr m b t (k:Int) f0 g0)
 | 0,k,h1,h2=>by omega
 | m + 1,k,h1,h2=>by
  show Q (F.zj.L2.step n (F.zj.L2 n k0 kr m) k0 kr b t (k:Int) f0 g0)
  unfold F.zj.L2.step
  have ok:∀ {a c:Option X},Q a→(k<3→k<b.length→Q c)→k<3→Q (bif decide ((k:Int)≥(b.length:Int)) then a else c):=fun ha hc h3=>bq (fun _=>ha) fun h=>hc h3 (by rw [decide_eq_false_iff_not] at h; omega)
  have nx:k<3→Q (F.zj.L2 n k0 kr m b (t.1,t.2.1,t.2.2.1,t.2.2.2.1,t.2.2.2.2.1,t.2.2.2.2.2.1,()) (IntKind.wrap .i64 ((k:Int)+1)) f0 g0):=fun hk=>by
   rw [zh (by omega)]
   exact zpw hb h0 hr m (k+1) (by omega) (by omega)
  refine bq (fun h => ?_) fun _=>h0
  rw [decide_eq_true_iff] at h
  have h3:k<3:=by omega
  have one:∀ {w e:Int},k<3→k<b.length→Q ((idx b (k:Int)).bind fun x=>bif !((x.toNat:Int)==w) then kr 0 0 e (k:Int) else F.zj.L2 n k0 kr m b (t.1,t.2.1,t.2.2.1,t.2.2.2.1,t.2.2.2.2.1,t.2.2.2.2.2.1,()) (IntKind.wrap .i64 ((k:Int)+1)) f0 g0):=fun h3 hl=>by
   rw [zam hl,za]
   exact bq (fun _=>hr _ _) fun _=>nx h3
  refine bq (fun _=>ok (hr _ _) one h3) fun q0=>bq (fun _=>ok (hr _ _) one h3) fun q1=>bq (fun _=>ok (hr _ _) one h3) fun q2 => ?_
  have a0:¬ ((k:Int)=0):=by simpa using q0
  have a1:¬ ((k:Int)=1):=by simpa using q1
  have a2:¬ ((k:Int)=2):=by simpa using q2
  omega
theorem zpx (hn:2000≤n) (hb:b.length≤100000000):∃ a l f g,F.zj n b=some (a,l,(f,g,()),())∧HP b a l f g:=by
 unfold F.zj
 refine zpw (Q:=fun o=>∃ a l f g,o=some (a,l,(f,g,()),())∧HP b a l f g) hb ?_ (fun f g=>⟨_,_,_,_,rfl,.inl rfl⟩) n 0 (by omega) (by omega)
 exact zpv (Q:=fun o=>∃ a l f g,o=some (a,l,(f,g,()),())∧HP b a l f g) (fun f g=>⟨_,_,_,_,rfl,.inl rfl⟩) (fun a l f g h=>⟨_,_,_,_,rfl,h⟩) n 0 0 (by omega) (by omega) (by omega)
theorem zuu (hn:2000≤n) (hb:b.length≤100000000):∃ k f g,F.zaj n b=some (k,(f,g,()),())∧(k=0∨(8≤k∧k≤1048586∧f=0∧g=0)):=by
 obtain ⟨a,l,f,g,h,hp⟩:=zpx hn hb
 unfold F.zaj
 rw [h,za]
 refine bq (Q:=fun o=>∃ k f g,o=some (k,(f,g,()),())∧(k=0∨(8≤k∧k≤1048586∧f=0∧g=0))) (fun _=>⟨_,_,_,rfl,.inl rfl⟩) fun h0 => ?_
 have h0:¬ a=0:=by simpa using h0
 rcases hp with hp | hp
 · exact absurd hp h0
 · refine ⟨_,_,_,rfl,.inr ?_⟩
   rw [ze (x:=a+l) (by omega),ze (by omega)]
   exact ⟨by omega,by omega,hp.2.2.2.2.2.1,hp.2.2.2.2.2.2⟩
theorem zsf (hn:2000≤n) (hb:b.length≤100000000) (hm:b.length<n):PG (F.zal n b):=by
 obtain ⟨a,l,f,g,h,hp⟩:=zpx hn hb
 unfold F.zal F.zaj
 rw [h,za]
 have bad:∀ c d,PG (some ([],(c,d,()),())):=fun c d=>⟨_,_,_,rfl,by simp,by simp⟩
 by_cases h0:a=0
 · subst h0
   exact bq (Q:=PG) (fun _=>bad _ _) fun _=>bad _ _
 rcases hp with hp | hp
 · exact absurd hp h0
 obtain ⟨p1,p2,p3,p4,p5,rfl,rfl⟩:=hp
 have e:(a==(0:Int))=false:=by simpa using h0
 obtain ⟨v,hv⟩:=zse hn hb hm
 simp only [e,cond_false,za]
 rw [ze (x:=a+l) (by omega),ze (x:=a+l+4) (by omega)]
 refine bq (Q:=PG) (fun _=>bad _ _) fun _=>bq (Q:=PG) (fun _=>bad _ _) fun _=>bq (Q:=PG) (fun _=>bad _ _) fun q1=>bq (Q:=PG) (fun _=>bad _ _) fun q2 => ?_
 rw [decide_eq_false_iff_not] at q1 q2
 rw [hv,za]
 refine bq (Q:=PG) (fun _=>bad _ _) fun _ => ?_
 obtain ⟨k,rfl⟩:=Int.eq_ofNat_of_zero_le (show 0≤a by omega)
 obtain ⟨j,rfl⟩:=Int.eq_ofNat_of_zero_le p4
 rw [ze (by omega),show (k:Int)+(j:Int)+4 - 4=((k+j:Nat):Int) from by omega,zr b k (k+j) (by omega) (by omega),za]
 obtain ⟨m,c,d,hm,h1,h2⟩:=zpt (b:=List.drop k (List.take (k+j) b)) hn (by simp; omega)
 rw [hm,za]
 exact bq (Q:=PG) (fun _=>bad _ _) fun _=>⟨_,_,_,rfl,h1,h2⟩
end
end Go.AM
set_option linter.unusedVariables false
set_option linter.unusedSimpArgs false
namespace Go.AM
theorem zsg (n:Nat) (x:Int×Int×Int×List MetL×Int×Int×Unit) (h:F.zq n x.2.2.2.1 x.2.2.2.1=some true):F.zan n x x=some true:=by
 unfold F.zan
 simp only [beq_self_eq_true,cond_true,h,za]
theorem zuc (n:Nat) (hn:200000≤n):F.zq n [] []=some true:=zla n hn [] (by simp) (fun x hx=>by cases hx)
theorem awake22b:F.zd 400000 4 100 [77,0,5]=some ([(2,0,2,[],22,1)],0,()):=by kernel_rfl
theorem awake22:F.zm 400000=some true:=by
 have h1:=zni 400000 (by omega) 1 100 (Or.inl rfl) (by decide) (by decide) [97,58,49,124,99,10,98,10,99] (by decide)
 have e1:evS 1 100 (splitL 10 [97,58,49,124,99,10,98,10,99]) 0=[(1,0,6,[([97],1,[(false,1,0)],1000000,[],0)],0,0),(2,6,8,[],11,7),(3,8,9,[],30,8)]:=by kernel_rfl
 rw [e1] at h1
 have g1:=zsg 400000 (2,6,8,[],11,7,()) (zuc 400000 (by omega))
 have t1:([UInt8.ofNat ((97:Int)).toNat,UInt8.ofNat ((58:Int)).toNat,UInt8.ofNat ((49:Int)).toNat,UInt8.ofNat ((124:Int)).toNat,UInt8.ofNat ((99:Int)).toNat,UInt8.ofNat ((10:Int)).toNat,UInt8.ofNat ((98:Int)).toNat,UInt8.ofNat ((10:Int)).toNat,UInt8.ofNat ((99:Int)).toNat]:List UInt8)=[97,58,49,124,99,10,98,10,99]:=by kernel_rfl
 have t2:([UInt8.ofNat ((77:Int)).toNat,UInt8.ofNat ((0:Int)).toNat,UInt8.ofNat ((5:Int)).toNat]:List UInt8)=[77,0,5]:=by kernel_rfl
 unfold F.zm
 rw [t1,t2,h1,awake22b]
 show (F.zan 400000 (2,6,8,[],11,7,()) (2,6,8,[],11,7,())).bind _=_
 rw [g1]
 rfl
end Go.AM
set_option linter.unusedVariables false
set_option linter.unusedSimpArgs false
namespace Go.AM
section
variable {X:Type} {Q:Option X→Prop} {n:Nat}
def EV (l:List EvL) (e:Bool):Prop:=(e=false∧∀ x∈l,x.1≠2)∨(e=true∧∃ l' x,l=l'++[x]∧x.1=2∧∀ y∈l',y.1≠2)
theorem zl6 {k0 kr:Bool→Option X} {l:List EvL} {e:Bool} (hl:l.length≤1000000) (hE:EV l e) (hk:Q (k0 e)):∀ (m i:Nat) (g:Bool),i≤l.length→l.length<m+i→(i<l.length→g=false)→(i=l.length→g=e)→Q (F.zb.L16 n k0 kr m l g (i:Int) 4)
 | 0,i,g,h1,h2,h3,h4=>by omega
 | m + 1,i,g,h1,h2,h3,h4=>by
  show Q (F.zb.L16.step n (F.zb.L16 n k0 kr m) k0 kr l g (i:Int) 4)
  unfold F.zb.L16.step
  by_cases h:i<l.length
  · rw [decide_eq_true (by omega),cond_true,h3 h,cond_false,show ((4:Int)==4)=true from rfl,cond_true,zam h,za,zh (by omega)]
    refine zl6 hl hE hk m (i+1) _ (by omega) (by omega) (fun h' => ?_) (fun h' => ?_)
    · rcases hE with ⟨_,hE⟩ | ⟨_,l',x,rfl,hx,hE⟩
      · have:=hE _ (List.getElem_mem h); simpa using this
      · simp at h'
        rw [List.getElem_append_left (by omega)]
        have:=hE _ (List.getElem_mem (l:=l') (n:=i) (by omega)); simpa using this
    · rcases hE with ⟨rfl,hE⟩ | ⟨rfl,l',x,rfl,hx,hE⟩
      · have:=hE _ (List.getElem_mem h); simpa using this
      · have:i=l'.length:=by simp at h'; omega
        subst this
        simp [hx]
  · rw [decide_eq_false (by omega),cond_false,h4 (by omega)]
    exact hk
theorem zl7 {k0 kr:Bool→Option X} {l:List EvL} {f:Int} (hf:f≠4) (hl:l.length≤1000000) (hk:Q (k0 false)):∀ (m i:Nat),i≤l.length→l.length<m+i→Q (F.zb.L16 n k0 kr m l false (i:Int) f)
 | 0,i,h1,h2=>by omega
 | m+1,i,h1,h2=>by
  show Q (F.zb.L16.step n (F.zb.L16 n k0 kr m) k0 kr l false (i:Int) f)
  unfold F.zb.L16.step
  refine bq (fun h => ?_) fun _=>hk
  rw [decide_eq_true_iff] at h
  rw [cond_false,show (f==4)=false by simpa using hf,cond_false,zh (by omega)]
  exact zl7 hf hl hk m (i+1) (by omega) (by omega)
theorem zsq {kr:Bool→Option X} (ha:F.zm n=some true) (hk:Q (kr true)):Q (F.zb.C31 n kr [] 28 [] 28):=by
 unfold F.zb.C31
 rw [ha]
 exact hk
theorem zu6 {kr:Bool→Option X} {f a b c:Int} {e g:Bool} (ha:F.zm n=some true) (hk:Q (kr true)):Q (F.zb.C30 n kr [] 28 f e true a b c g):=by
 unfold F.zb.C30
 simp only [cond_true]
 exact zsq ha hk
theorem ziw {kr:Bool→Option X} {w o:List UInt8} {f a b c:Int} {e g:Bool} {t:Nat} (ha:F.zm n=some true) (hk:Q (kr true)):Q (F.zb.C29 n kr w f e true a b c o g t):=by
 unfold F.zb.C29
 cases e<;>simp only [cond_true,cond_false]<;>exact zu6 ha hk
theorem zuv {kr:Bool→Option X} {f a:Int} {o:List UInt8} {e g:Bool} (ha:F.zm n=some true) (hk:Q (kr true)):Q (F.zb.C30_1 n kr [] 28 f e true a o g):=by
 unfold F.zb.C30_1
 simp only [cond_true]
 exact zsq ha hk
theorem zgy {kr:Bool→Option X} {w o:List UInt8} {f a b c:Int} {e g:Bool} {t:Nat} (ha:F.zm n=some true) (hk:Q (kr true)):Q (F.zb.C29_1 n kr w f e true a b o c g t):=by
 unfold F.zb.C29_1
 cases e<;>simp only [cond_true,cond_false]<;>exact zuv ha hk
theorem zix {kr:Bool→Option X} {kn:Unit→Option X} {l:List EvL} {f:Int} {e:Bool} {o:List UInt8} (hl:l.length≤1) (hk:Q (kn ())):Q (F.zb.C27 n kr kn l 0 f e true o):=by
 unfold F.zb.C27
 rw [show (!((0:Int)==0))=false from rfl,decide_eq_false (by omega)]
 cases e<;>exact hk
theorem zko {kr:Bool→Option X} {kn:Unit→Option X} {l:List EvL} {f:Int} {e:Bool} {o:List UInt8} (hl:l.length≤1) (hk:Q (kn ())):Q (F.zb.C27_1 n kr kn l 0 f e true o):=by
 unfold F.zb.C27_1
 rw [show (!((0:Int)==0))=false from rfl,decide_eq_false (by omega)]
 cases e<;>exact hk
theorem zuw {kr:Bool→Option X} {kn:Unit→Option X} {f:Int} {g:Bool} {o:List UInt8}:F.zb.C24_1 n kr kn [] 28 [] 0 f true g o=kn ():=rfl
theorem zu7 {kr k2:Bool→Option X} {w o:List UInt8} {l:List EvL} {f a b c:Int} {g:Bool} {t:Nat} (hn:400000≤n) (ha:F.zm n=some true) (hf:f≠4) (hl:l.length≤100000) (hk:Q (kr true)):Q (F.zb.C12 n kr k2 w l 0 f f false false a b c o g t):=by
 unfold F.zb.C12
 rw [show (!((0:Int)==0))=false from rfl,cond_false]
 refine zl7 hf (by omega) ?_ n 0 (by omega) (by omega)
 have z:∀ {x y:Option X},Q x→Q y→∀ c,Q (bif c then x else y):=fun hx hy c=>bq (fun _=>hx) fun _=>hy
 simp only [cond_false]
 rw [show (f==(4:Int))=false by simpa using hf,cond_false]
 exact z (zix (by simp) (ziw ha hk)) (z (zix (by simp) (ziw ha hk)) (z (zix (by simp) (ziw ha hk)) (zix (by simp) (ziw ha hk)) _) _) _
theorem zgz {kr k2:Bool→Option X} {w o:List UInt8} {l:List EvL} {a b c:Int} {e g:Bool} {t:Nat} (hn:400000≤n) (ha:F.zm n=some true) (hE:EV l e) (hl:l.length≤100000) (hk:Q (kr true)):Q (F.zb.C12_1 n kr k2 w l 0 4 4 e false a b o c g t):=by
 unfold F.zb.C12_1
 have z:∀ {x y:Option X},Q x→Q y→∀ c,Q (bif c then x else y):=fun hx hy c=>bq (fun _=>hx) fun _=>hy
 rw [show (!((0:Int)==0))=false from rfl,cond_false]
 refine zl6 (by omega) hE ?_ n 0 false (by omega) (by omega) (fun _=>rfl) (fun h => ?_)
 · cases e with
   | true =>
    simp only [cond_true]
    unfold F.zb.C23_1
    simp only [cond_true,cond_false,zuw]
    exact zgy ha hk
   | false =>
    simp only [cond_false]
    rw [show ((4:Int)==4)=true from rfl,cond_true]
    exact z (zko (by simp) (zgy ha hk)) (z (zko (by simp) (zgy ha hk)) (zko (by simp) (zgy ha hk)) _) _
 · rcases hE with ⟨rfl,_⟩ | ⟨_,l',x,rfl,_⟩
   · rfl
   · simp at h
theorem c9_t {kr:Bool→Option X} {c:Int} (ha:F.zm n=some true) (hc:c≠0) (hk:Q (kr true)):Q (F.zb.C9 n kr c):=by
 unfold F.zb.C9
 rw [show (!(c==0))=true by simpa using hc,ha]
 exact hk
theorem ap_t {α:Type} {sz t:Nat} {l:List α} {r:Option X} (h:(l.length+1)*sz≤2 ^ 46) (hs:0<sz∧sz≤2 ^ 20) (ht:t=l.length) (hr:Q r):Q (bif decide ((l.length+1)*sz≤2 ^ 46)&&decide (0<sz∧sz≤2 ^ 20) then bif Nat.beq t l.length then r else none else none):=by
 rw [decide_eq_true h,decide_eq_true hs,ht,nbeq.2 (rfl:l.length=l.length)]
 exact hr
theorem zsh (c:UInt8) (s:List UInt8):(seg c s).length+(restN c s).length≤s.length∧(s≠[]→(restN c s).length<s.length):=by
 unfold restN
 by_cases h:c∈s
 · have:=za2 h
   rw [if_pos h,List.length_drop]
   exact ⟨by omega,fun _=>by omega⟩
 · rw [if_neg h]
   have:=congrArg List.length (zf2 c s)
   simp at this
   exact ⟨by simp; omega,fun h=>List.length_pos_iff.2 h⟩
def LB (l:List LnL):Prop:=l.length≤2000∧∀ x∈l,x.2.2.1.length≤2000
theorem zhk {k0:Int→Int→List UInt8→List LnL→List UInt8→Nat→Nat→Option X} {v:Int} (hk:∀ a b o l r t u,LB l→Q (k0 a b o l r t u)) :
 ∀ (m:Nat) (a b:Int) (o:List UInt8) (l:List LnL) (r:List UInt8) (t u:Nat),r.length<m→o.length+r.length≤2000→l.length+r.length≤2000→(∀ x∈l,x.2.2.1.length≤2000)→u=l.length→Q (F.zb.L0_line_pieces_1 n k0 m v a b o l r t u)
 | 0,a,b,o,l,r,t,u,h1,h2,h3,h4,h5=>by omega
 | m + 1,a,b,o,l,r,t,u,h1,h2,h3,h4,h5=>by
  show Q (F.zb.L0_line_pieces_1.step n (F.zb.L0_line_pieces_1 n k0 m) k0 v a b o l r t u)
  unfold F.zb.L0_line_pieces_1.step
  refine bq (fun h => ?_) fun _=>hk _ _ _ _ _ _ _ ⟨by omega,h4⟩
  rw [decide_eq_true_iff] at h
  have hr:r≠[]:=fun e=>by subst e; simp at h
  obtain ⟨e1,e2⟩:=zsh 10 r
  have e3:=e2 hr
  have cut:F.zam n r [UInt8.ofNat ((10:Int)).toNat]=some (seg 10 r,restN 10 r,decide (10∈r),()):=zl3 n hr (by omega)
  rw [cut,za]
  have all:∀ (x:LnL),x.2.2.1.length≤2000→∀ y∈l++[x],y.2.2.1.length≤2000:=fun x hx y hy=>by
   rcases List.mem_append.1 hy with h | h
   · exact h4 y h
   · rw [List.mem_singleton.1 h]; exact hx
  have nx:∀ (x:LnL) (a b:Int) (o':List UInt8) (t:Nat),x.2.2.1.length≤2000→o'.length+(restN 10 r).length≤2000→Q (F.zb.L0_line_pieces_1 n k0 m v a b o' (l++[x]) (restN 10 r) t (l++[x]).length):=fun x a b o' t hx ho =>
   zhk hk m a b o' (l++[x]) (restN 10 r) t _ (by omega) ho (by simp; omega) (all x hx) rfl
  have go:∀ (a b:Int) (o':List UInt8) (t:Nat),o'.length+(restN 10 r).length≤2000→Q (F.zb.L0_line_pieces_1 n k0 m v a b o' l (restN 10 r) t u):=fun a b o' t ho =>
   zhk hk m a b o' l (restN 10 r) t u (by omega) ho (by omega) h4 h5
  have so:sub o 0 (o.length:Int)=some o:=by
   have:=zr o 0 o.length (by omega) (by omega)
   simpa using this
  refine bq (fun _=>bq (fun _=>bq (fun _ => ?_) fun _ => ?_) fun _=>go _ _ _ _ (by simp; omega)) fun _ => ?_
  · rw [zas]; exact ap_t (by omega) (by decide) h5 (nx _ _ _ _ _ (by simp) (by simp; omega))
  · rw [zas]; exact ap_t (by omega) (by decide) h5 (nx _ _ _ _ _ (by simp) (by simp; omega))
  · rw [show ((o.length:Int)==(o.length:Int))=true by simp,cond_true,so,za,decide_eq_true (show (o.length+(seg 10 r).length)*1≤2 ^ 46 by omega)]
    show Q (bif decide (10∈r) then _ else _)
    refine bq (fun _=>bq (fun _ => ?_) fun _ => ?_) fun _=>go _ _ _ _ (by simp; omega)
    · rw [zas]; exact ap_t (by omega) (by decide) h5 (nx _ _ _ _ _ (by simp; omega) (by simp; omega))
    · rw [zas]; exact ap_t (by omega) (by decide) h5 (nx _ _ _ _ _ (by simp) (by simp; omega))
theorem zpy {k0:List EvL→Nat→Option X} {l:List LnL} {f:Int} (hn:400000≤n) (hl:LB l) (hk:∀ e t,e.length≤2000→Q (k0 e t)) :
 ∀ (m i:Nat) (e:List EvL) (t:Nat),i≤l.length→l.length<m+i→e.length=i→t=e.length→Q (F.zb.L2_sess_Sess_text_1 n k0 m l (l.length:Int) (i:Int) f e t)
 | 0,i,e,t,h1,h2,h3,h4=>by omega
 | m+1,i,e,t,h1,h2,h3,h4=>by
  show Q (F.zb.L2_sess_Sess_text_1.step n (F.zb.L2_sess_Sess_text_1 n k0 m) k0 l (l.length:Int) (i:Int) f e t)
  unfold F.zb.L2_sess_Sess_text_1.step
  have hl1:=hl.1
  refine bq (fun h => ?_) fun _=>hk _ _ (by omega)
  rw [decide_eq_true_iff] at h
  have hi:i<l.length:=by omega
  rw [zam hi,za,zeu n (by omega) _ (by have:=hl.2 _ (List.getElem_mem hi); omega),za,zh (by omega)]
  have go:∀ x:EvL,Q (F.zb.L2_sess_Sess_text_1 n k0 m l (l.length:Int) ((i+1:Nat):Int) f (e++[x]) (e++[x]).length):=fun x=>zpy hn hl hk m (i+1) (e++[x]) _ (by omega) (by omega) (by simp; omega) rfl
  exact bq (fun _=>ap_t (by omega) (by decide) h4 (go _)) fun _=>bq (fun _=>ap_t (by omega) (by decide) h4 (go _)) fun _=>ap_t (by omega) (by decide) h4 (go _)
abbrev FrL:=Int×Int×List UInt8×Int×Int
def FB (l:List FrL):Prop:=l.length≤2000∧∀ x∈l,x.2.2.1.length≤2000
theorem EV.snoc {e:List EvL} {x:EvL} (h:∀ y∈e,y.1≠2) (hx:x.1=2):EV (e++[x]) true:=.inr ⟨rfl,e,x,rfl,hx,h⟩
theorem zsr {k0 kr:Bool→List EvL→Nat→Option X} {l:List FrL} (hn:400000≤n) (hl:FB l) (hk:∀ e t,e.length≤2000→EV e false→Q (k0 false e t)) (hr:∀ e t,e.length≤2001→EV e true→Q (kr true e t)) :
 ∀ (m i:Nat) (e:List EvL) (t:Nat),i≤l.length→l.length<m+i→e.length=i→t=e.length→(∀ y∈e,y.1≠2)→Q (F.zb.L2_sess_Sess_binary_1 n k0 kr m l (l.length:Int) (i:Int) false e t)
 | 0,i,e,t,h1,h2,h3,h4,h5=>by omega
 | m+1,i,e,t,h1,h2,h3,h4,h5=>by
  show Q (F.zb.L2_sess_Sess_binary_1.step n (F.zb.L2_sess_Sess_binary_1 n k0 kr m) k0 kr l (l.length:Int) (i:Int) false e t)
  unfold F.zb.L2_sess_Sess_binary_1.step
  have hl1:=hl.1
  refine bq (fun h => ?_) fun _=>hk _ _ (by omega) (.inl ⟨rfl,h5⟩)
  rw [decide_eq_true_iff] at h
  have hi:i<l.length:=by omega
  obtain ⟨ms,c,d,hd,_,_⟩:=zsf (n:=n) (b:=l[i].2.2.1) (by omega) (by have:=hl.2 _ (List.getElem_mem hi); omega) (by have:=hl.2 _ (List.getElem_mem hi); omega)
  rw [zam hi,za,hd,za,zh (by omega)]
  refine bq (fun _=>bq (fun _=>ap_t (by omega) (by decide) h4 ?_) fun _=>ap_t (by omega) (by decide) h4 (hr _ _ (by simp; omega) (EV.snoc h5 rfl))) fun _=>ap_t (by omega) (by decide) h4 (hr _ _ (by simp; omega) (EV.snoc h5 rfl))
  refine zsr hn hl hk hr m (i+1) _ _ (by omega) (by omega) (by simp; omega) rfl fun y hy => ?_
  rcases List.mem_append.1 hy with h | h
  · exact h5 y h
  · rw [List.mem_singleton.1 h]; exact (by decide:(1:Int)≠2)
end
end Go.AM
set_option linter.unusedVariables false
set_option linter.unusedSimpArgs false
namespace Go.AM
section
variable {X:Type} {Q:Option X→Prop} {n:Nat}
theorem op_t {t:Nat} {o x:List UInt8} {r:Option X} (h:(o.length+x.length)*1≤2 ^ 46) (ht:t=o.length) (hr:Q r):Q (bif decide ((o.length+x.length)*1≤2 ^ 46)&&decide (0<1∧1≤2 ^ 20) then bif Nat.beq t o.length then r else none else none):=by
 rw [decide_eq_true h,ht,nbeq.2 (rfl:o.length=o.length)]
 exact hr
theorem zf8 {k0:Int→List UInt8→Int→List FrL→List UInt8→Nat→Nat→Option X} {kr:Int→List UInt8→Int→Bool→List FrL→List UInt8→Nat→Nat→Nat→Option X} {v:Int} (hn:400000≤n)
 (hk:∀ a o c l r t u,FB l→Q (k0 a o c l r t u)) (hr:∀ a o c g l r t u w,FB l→Q (kr a o c g l r t u w)) :
 ∀ (m:Nat) (a:Int) (o:List UInt8) (c:Int) (l:List FrL) (r:List UInt8) (t u:Nat),r.length<m→o.length+r.length≤2000→l.length+r.length≤2000→(∀ x∈l,x.2.2.1.length≤2000)→t=o.length→u=l.length→(c=0∨((o.length:Int)<c∧c≤1048586))→Q (F.zb.L0_chunk_Framer_frames_1 n k0 kr m v a o c l r t u)
 | 0,a,o,c,l,r,t,u,h1,h2,h3,h4,h5,h6,h7=>by omega
 | m + 1,a,o,c,l,r,t,u,h1,h2,h3,h4,h5,h6,h7=>by
  show Q (F.zb.L0_chunk_Framer_frames_1.step n (F.zb.L0_chunk_Framer_frames_1 n k0 kr m) k0 kr v a o c l r t u)
  unfold F.zb.L0_chunk_Framer_frames_1.step
  refine bq (fun h => ?_) fun _=>hk _ _ _ _ _ _ _ ⟨by omega,h4⟩
  rw [decide_eq_true_iff] at h
  have all:∀ (x:FrL),x.2.2.1.length≤2000→∀ y∈l++[x],y.2.2.1.length≤2000:=fun x hx y hy=>by
   rcases List.mem_append.1 hy with h | h
   · exact h4 y h
   · rw [List.mem_singleton.1 h]; exact hx
  have fr:∀ (x:FrL) (a:Int) (r':List UInt8),r'.length<r.length→x.2.2.1.length≤2000→Q (F.zb.L0_chunk_Framer_frames_1 n k0 kr m v a [] 0 (l++[x]) r' 0 (l++[x]).length):=fun x a r' hr' hx =>
   zf8 hn hk hr m a [] 0 (l++[x]) r' 0 _ (by omega) (by simp; omega) (by simp; omega) (all x hx) rfl rfl (.inl rfl)
  have go:∀ (a:Int) (o':List UInt8) (c':Int) (r':List UInt8),r'.length<r.length→o'.length+r'.length≤2000→(c'=0∨((o'.length:Int)<c'∧c'≤1048586))→Q (F.zb.L0_chunk_Framer_frames_1 n k0 kr m v a o' c' l r' o'.length u):=fun a o' c' r' hr' ho hc =>
   zf8 hn hk hr m a o' c' l r' _ u (by omega) ho (by omega) h4 rfl h6 hc
  have stop:∀ (x:FrL) a o c g r t u w,x.2.2.1.length≤2000→Q (kr a o c g (l++[x]) r t u w):=fun x a o c g r t u w hx=>hr _ _ _ _ _ _ _ _ _ ⟨by simp; omega,all x hx⟩
  refine bq (fun hc => ?_) fun hc => ?_
  · rw [decide_eq_true_iff] at hc
    have h7:(o.length:Int)<c∧c≤1048586:=by
     rcases h7 with h | h
     · omega
     · exact h
    rw [ze (by omega)]
    obtain ⟨j,hj,hj1,hj2⟩:∃ j:Nat,(if (r.length:Int)<c - (o.length:Int) then (r.length:Int) else c - (o.length:Int))=(j:Int)∧1≤j∧j≤r.length:=by
     by_cases hh:(r.length:Int)<c - (o.length:Int)
     · rw [if_pos hh]; exact ⟨r.length,rfl,by omega,by omega⟩
     · rw [if_neg hh]; exact ⟨(c - (o.length:Int)).toNat,by omega,by omega,by omega⟩
    rw [hj,show (0:Int)=((0:Nat):Int) from rfl,zr r 0 j (by omega) hj2,za,zr r j r.length hj2 (by omega),za,List.drop_zero,List.take_length]
    have e0:((0:Nat):Int)=0:=rfl
    rw [e0]
    have hx:(r.take j).length=j:=by simp; omega
    have hd:(r.drop j).length<r.length:=by simp; omega
    refine op_t (by omega) h5 ?_
    refine bq (fun h0 => ?_) fun _=>bq (fun hlt => ?_) fun _=>ap_t (by omega) (by decide) h6 (fr _ _ _ hd (by simp; omega))
    · have:c=0:=by simpa using h0
      omega
    · rw [decide_eq_true_iff] at hlt
      exact go _ _ _ _ hd (by simp; omega) (.inr ⟨hlt,h7.2⟩)
  · rw [decide_eq_false_iff_not] at hc
    have hc0:c=0:=by
     rcases h7 with h | h
     · exact h
     · omega
    subst hc0
    have s1:sub r 0 1=some (r.take 1):=by
     have:=zr r 0 1 (by omega) (by omega)
     simpa using this
    have s2:sub r 1 (r.length:Int)=some (r.drop 1):=by
     have:=zr r 1 r.length (by omega) (by omega)
     simpa using this
    have hx:(r.take 1).length=1:=by simp; omega
    have hd:(r.drop 1).length<r.length:=by simp; omega
    obtain ⟨k,f,g,hH,hk'⟩:=zuu (n:=n) (b:=o++r.take 1) (by omega) (by simp; omega)
    rw [s1,za]
    refine op_t (by omega) h5 ?_
    rw [hH,s2]
    simp only [za]
    have tail:∀ (c':Int),(c'=0∨(8≤c'∧c'≤1048586))→Q (bif c'==0 then F.zb.L0_chunk_Framer_frames_1 n k0 kr m v (IntKind.wrap .i64 (a+((r.take 1).length:Int))) (o++r.take 1) c' l (r.drop 1) (o++r.take 1).length u else
     bif decide (((o++r.take 1).length:Int)<c') then F.zb.L0_chunk_Framer_frames_1 n k0 kr m v (IntKind.wrap .i64 (a+((r.take 1).length:Int))) (o++r.take 1) c' l (r.drop 1) (o++r.take 1).length u else
     bif decide ((l.length+1)*56≤2 ^ 46)&&decide (0<56∧56≤2 ^ 20) then bif Nat.beq u l.length then F.zb.L0_chunk_Framer_frames_1 n k0 kr m v (IntKind.wrap .i64 (a+((r.take 1).length:Int))) [] 0 (l++[(IntKind.wrap .i64 (IntKind.wrap .i64 (a+((r.take 1).length:Int)) - ((o++r.take 1).length:Int)),IntKind.wrap .i64 (a+((r.take 1).length:Int)),o++r.take 1,(0,0))]) (r.drop 1) 0 (l++[(IntKind.wrap .i64 (IntKind.wrap .i64 (a+((r.take 1).length:Int)) - ((o++r.take 1).length:Int)),IntKind.wrap .i64 (a+((r.take 1).length:Int)),o++r.take 1,((0:Int),(0:Int)))]).length else none else none):=fun c' hc' =>
     bq (fun h0=>go _ _ _ _ hd (by simp; omega) (.inl (by simpa using h0))) fun h0=>bq (fun hlt=>go _ _ _ _ hd (by simp; omega) (.inr ⟨by simpa using hlt,by omega⟩)) fun _=>ap_t (by omega) (by decide) h6 (fr _ _ _ hd (by simp; omega))
    refine bq (fun _=>bq (fun _=>ap_t (by omega) (by decide) h6 (stop _ _ _ _ _ _ _ _ _ (by simp))) fun _ => ?_) fun _=>bq (fun hp=>bq (fun _=>ap_t (by omega) (by decide) h6 (stop _ _ _ _ _ _ _ _ _ (by simp))) fun _=>tail k ?_) fun hp=>tail k ?_
    · exact go _ _ _ [] (by simp; omega) (by simp; omega) (.inl rfl)
    · rcases hk' with h | h
      · exact .inl h
      · exact .inr ⟨h.1,h.2.1⟩
    · rcases hk' with h | h
      · exact .inl h
      · exact .inr ⟨h.1,h.2.1⟩
theorem zu8 {kr k2:Bool→Option X} {w z:List UInt8} {f most:Int} (hn:400000≤n) (ha:F.zm n=some true) (hf:f≠4) (hw:w.length≤1500) (hk:Q (kr true)):Q (F.zb.C9_1 n kr k2 w z 0 f f false false most 0 0 [] false 0):=by
 unfold F.zb.C9_1
 rw [show (!((0:Int)==0))=false from rfl]
 simp only [cond_false]
 refine zhk (fun a b o l r t u hl => ?_) n 0 0 [] [] w 0 0 (by omega) (by simp; omega) (by simp; omega) (by simp) rfl
 exact zpy hn hl (fun e t he=>zu7 (k2:=fun e=>kr e) hn ha hf (by omega) hk) n 0 [] 0 (by omega) (by have:=hl.1; omega) rfl rfl
theorem zu9 {kr k2:Bool→Option X} {w z:List UInt8} {most:Int} (hn:400000≤n) (ha:F.zm n=some true) (hw:w.length≤1500) (hk:Q (kr true)):Q (F.zb.C9_2 n kr k2 w z 0 4 4 false false most 0 [] 0 false 0):=by
 unfold F.zb.C9_2
 rw [show (!((0:Int)==0))=false from rfl]
 simp only [cond_false]
 rw [zkm n (by omega),za]
 have b:∀ {k0 k1:Bool→List EvL→Nat→Option X} {l:List FrL},FB l→(∀ e t,e.length≤2000→EV e false→Q (k0 false e t))→(∀ e t,e.length≤2001→EV e true→Q (k1 true e t))→Q (F.zb.L2_sess_Sess_binary_1 n k0 k1 n l (l.length:Int) 0 false [] 0):=fun hl h1 h2 =>
  zsr hn hl h1 h2 n 0 [] 0 (by omega) (by have:=hl.1; omega) rfl rfl (by simp)
 refine zf8 hn (fun a o c l r t u hl => ?_) (fun a o c g l r t u w hl => ?_) n 0 [] 0 [] w 0 0 (by omega) (by simp; omega) (by simp; omega) (by simp) rfl rfl (.inl rfl)
 · exact b hl (fun e t he hE=>zgz (k2:=fun e=>kr e) hn ha hE (by omega) hk) fun e t he hE=>zgz (k2:=fun e=>kr e) hn ha hE (by omega) hk
 · exact b hl (fun e t he hE=>zgz (k2:=fun e=>kr e) hn ha hE (by omega) hk) fun e t he hE=>zgz (k2:=fun e=>kr e) hn ha hE (by omega) hk
end
theorem zpz (n:Nat) (hn:400000≤n) (ha:F.zm n=some true) (b z:List UInt8) (w:Int×Int×Unit):F.zb n b w z=some true:=by
 obtain ⟨f,most,⟨⟩⟩:=w
 let Q:Option Bool→Prop:=fun o=>o=some true
 show Q _
 unfold F.zb
 have aw:Q ((F.zm n).bind fun y=>some y):=by rw [ha]; rfl
 have bad:∀ c:Int,c≠0→Q (F.zb.C9 n (fun e=>some e) c):=fun c hc=>c9_t ha hc rfl
 refine bq (Q:=Q) (fun _=>aw) fun h1=>bq (Q:=Q) (fun _=>aw) fun _ => ?_
 rw [decide_eq_false_iff_not] at h1
 have ta:f≠4→Q (F.zb.C9_1 n (fun e=>some e) (fun e=>some e) b z 0 f f false false most 0 0 [] false 0):=fun hf=>zu8 hn ha hf (by omega) rfl
 have bi:f=4→Q (F.zb.C9_2 n (fun e=>some e) (fun e=>some e) b z 0 f f false false most 0 [] 0 false 0):=fun hf=>by subst hf; exact zu9 hn ha (by omega) rfl
 have ne:∀ {g k:Int},(g==k)=true→g=k:=fun h=>by simpa using h
 dsimp only
 refine bq (Q:=Q) (fun e => ?_) fun _=>bq (Q:=Q) (fun e => ?_) fun _=>bq (Q:=Q) (fun e => ?_) fun _=>bq (Q:=Q) (fun e => ?_) fun _=>bad _ (by decide)
 · have e:=ne e
   exact bq (Q:=Q) (fun _=>bq (Q:=Q) (fun _=>bad _ (by decide)) fun _=>bq (Q:=Q) (fun _=>bad _ (by decide)) fun _=>ta (by omega)) fun _=>bq (Q:=Q) (fun e4=>absurd (ne e4) (by omega)) fun _=>bad _ (by decide)
 · have e:=ne e
   exact bq (Q:=Q) (fun _=>bq (Q:=Q) (fun _=>bad _ (by decide)) fun _=>bq (Q:=Q) (fun _=>bad _ (by decide)) fun _=>ta (by omega)) fun _=>bq (Q:=Q) (fun e4=>absurd (ne e4) (by omega)) fun _=>bad _ (by decide)
 · have e:=ne e
   exact bq (Q:=Q) (fun _=>bad _ (by decide)) fun _=>bq (Q:=Q) (fun _=>bad _ (by decide)) fun _=>ta (by omega)
 · have e:=ne e
   exact bq (Q:=Q) (fun _=>bad _ (by decide)) fun _=>bq (Q:=Q) (fun _=>bad _ (by decide)) fun _=>bi e
end Go.AM
namespace Go.Proofs.YtfeonbdbigcdcaaGreatDoor.sessEnds
open Go.ChangeShapes Go.WideShapes Go.ChangeAt Go.RowKit Go.AM
theorem j1:laidOutB Tryz.prog=true:=by kernel_rfl
theorem own:ownKnob Tryz.prog.godebug=none:=by kernel_rfl
theorem goes:LawGoes Tryz.prog SI 3 [(.sl .u8),(.agg [(.int .i64),(.int .i64)]),(.sl .u8)]:=fun x hx w vals hI hr =>
 ok3 _ (x.1,(x.2.1.1,x.2.1.2,()),x.2.2.1,()) true (zpz 400000 (by omega) awake22 x.1 x.2.2.1 ⟨x.2.1.1,x.2.1.2,()⟩) w (AllD w) vals (WOf.of hI) hr (fun b o h=>h)
noncomputable def laidWorld (os:Os):World:=laidOf Tryz.prog os [layTab 4 Rows.laid_math_bits_deBruijn32tab,layTab 5 Rows.laid_math_bits_deBruijn64tab,layTab 1 Rows.laid_internal_strconv_uint64pow10,layTab 3 Rows.laid_unicode_utf8_acceptRanges,layErr 7 398 400 Rows.laid_strconv_ErrRange,layErr 6 398 400 Rows.laid_strconv_ErrSyntax,layTab 2 Rows.laid_unicode_utf8_first]
theorem zsi (os:Os) (args:Array Value):laidMet Tryz.prog Rows.sessEndsRow.laid ((laidWorld os).forCall (fun _ _=>0) ⟨#[],args,[]⟩).memory:=
 (LaidIn.of_run [4,5,1,3,7,6,2,(World.holding Tryz.prog os ⟨#[],#[],[]⟩).heap.size,(World.holding Tryz.prog os ⟨#[],#[],[]⟩).heap.size+1] 8 (by kernel_rfl) (by kernel_rfl) (by kernel_rfl) (by kernel_rfl)).met
theorem zlb (os:Os) {H:Type} (enc:TypeId×Value→H) :
 (OpenSpec.ofChange Rows.sessEndsSpec).preRow enc Tryz.prog Tryz.f3 Rows.sessEndsRow.domain false Rows.sessEndsRow.laid ((laidWorld os).forCall (fun _ _=>0) ⟨#[],#[.slice none 0 0,.agg #[.int .i64 0,.int .i64 0],.slice none 0 0],[]⟩).memory #[.slice none 0 0,.agg #[.int .i64 0,.int .i64 0],.slice none 0 0]:=by
 have hw:(DataW.whole enc Tryz.prog ((laidWorld os).forCall (fun _ _=>0) ⟨#[],#[.slice none 0 0,.agg #[.int .i64 0,.int .i64 0],.slice none 0 0],[]⟩).memory Tryz.f3.params.toList Rows.sessEndsSpec.vars false (#[.slice none 0 0,.agg #[.int .i64 0,.int .i64 0],.slice none 0 0]:Array Value).toList 8).map (fun x=>(x.1,x.2.1)) =
  some ([.nil,.agg [.lit (.int .i64 0),.lit (.int .i64 0)],.nil],[]):=by kernel_rfl
 obtain ⟨⟨x1,x2,x3⟩,hx,hx1⟩:=Option.map_eq_some_iff.1 hw
 simp only [Prod.mk.injEq] at hx1
 obtain ⟨rfl,rfl⟩:=hx1
 exact OpenSpec.preRow_of_cond 8 hx (by kernel_rfl) (fun k hk=>by cases hk) (by kernel_rfl) (zsi os _)
set_option maxRecDepth 100000 in
theorem lifted (os:Os) (started:os.Started) (H:Type) (enc:TypeId×Value→H) (F:Stop.Interp) :
 ReturnsInHanded {} Tryz.checked os 3 .any ((OpenSpec.ofChange Rows.sessEndsSpec).preRow enc Tryz.prog Tryz.f3 Rows.sessEndsRow.domain false Rows.sessEndsRow.laid) (((OpenSpec.ofChange Rows.sessEndsSpec).at F).post enc Tryz.prog Tryz.f3 false true false false):=by
 refine returnsInHanded_of_row (C:=Tryz.checked) (s:=OpenSpec.ofChange Rows.sessEndsSpec) own started (by kernel_rfl) Tryz.func3
  (witness_row_atRef (enc:=enc) (C:=Tryz.checked) false (laidWorld os) #[.slice none 0 0,.agg #[.int .i64 0,.int .i64 0],.slice none 0 0] rfl (by kernel_rfl) (by kernel_rfl) (by kernel_rfl) (zlb os enc)) ?_
 intro W base args ds gs before hval hW _ _ hw hL hO _
 exact zoh (s:=Rows.sessEndsSpec) (n:=8) j1 Tryz.func3 (by kernel_rfl) (by decide) (by kernel_rfl) rfl Tryz.underlying4 rfl (fun ds h=>by match ds,h with | [_,_,_],_=>rfl) goes hval hW hw ⟨hL,hO⟩
theorem j2:mapsRowed Tryz.prog=true:=by kernel_rfl
theorem j3:(Rows.sessEndsRow.inPlace==Tryz.prog.inPlace 3)=true:=by kernel_rfl
theorem j4:(Rows.sessEndsRow.unfollowed==Tryz.prog.unfollowed 3)=true:=by kernel_rfl
theorem j5:(Rows.sessEndsRow.recurses==Tryz.prog.recurses 3)=true:=by kernel_rfl
theorem j6:(Rows.sessEndsRow.named==Tryz.prog.varsNamed 3)=true:=by kernel_rfl
theorem joined:joinedFacts Tryz.prog 3 Tryz.f3 (OpenSpec.ofChange Rows.sessEndsSpec).bare Rows.sessEndsRow=true:=by
 simp only [joinedFacts,Bool.and_eq_true]
 repeat' apply And.intro
 · kernel_rfl
 · exact j1
 · exact j2
 · kernel_rfl
 · kernel_rfl
 · kernel_rfl
 · kernel_rfl
 · kernel_rfl
 · kernel_rfl
 · exact j3
 · exact j4
 · exact j5
 · exact j6
 all_goals kernel_rfl
theorem said:Rows.SessEndsSaid:=
 OpenClaim.holds_of_cond 3 Tryz.f3 rfl rfl rfl rfl rfl rfl rfl ⟨rfl,rfl,rfl,rfl,rfl⟩ rfl rfl rfl rfl rfl (by kernel_rfl) Tryz.func3 joined
  (of_decide_eq_true (by kernel_rfl)) (by unfold Func.isWrapper; first | (rw [if_pos (by decide +kernel)]; kernel_rfl) | (rw [if_neg (by decide +kernel)]; exact ⟨rfl,rfl⟩))
  (fun os started H enc _ F=>by rw [OpenClaim.pre_eq_preRow]; exact lifted os started H enc F)
end Go.Proofs.YtfeonbdbigcdcaaGreatDoor.sessEnds
