/- A metric has in a format the line, and a line is the metric, that the document tells, or either is wrong as it tells. -/
import Derived.Test.YtonhplejlfnkoaaGreatDoorQ6
import Derived.KernelRfl
import Derived.Test.YtonhplejlfnkoaaGreatDoorCards
import Derived.Test.YtonhplejlfnkoaaGreatDoorTie
import Derived.OpenShut
set_option linter.unusedVariables false
set_option linter.unusedSimpArgs false
namespace Go.AM
abbrev K31:=List UInt8→Int→List DecL→Int→List TagL→Int→Int→Int→List UInt8→Int→List DecL→Int→List TagL→Int→List UInt8→Int→List DecL→Int→List TagL→Int→Int→List UInt8→Int→Int→Int→Int→Nat→Nat→Nat→Nat→Nat→Option ParseD
abbrev K29:=List UInt8→Int→List DecL→Int→List TagL→Int→Int→Int→List UInt8→Int→List DecL→Int→List TagL→Int→List UInt8→Int→List DecL→Int→List TagL→Int→Int→List UInt8→Int→Int→Int→Int→Nat→Nat→Nat→Option ParseD
abbrev K30:=List UInt8→Int→List DecL→Int→List TagL→Int→Int→Int→List UInt8→Int→List DecL→Int→List TagL→Int→List UInt8→Int→List DecL→Int→List TagL→Int→Int→List UInt8→Int→Int→Nat→Nat→Nat→Nat→Nat→Nat→Option ParseD
structure K16OK (k0:K31) (kr:K29):Prop where
 bad:∀ e a w0 w1 w2 w3 w4 w5 g0 g1 n0 n1 j0 j1 q0 q1 q2,e≠0→kr [] 0 [] 0 [] 0 e a [] 0 [] 0 [] 0 w0 w1 w2 w3 w4 w5 g0 g1 n0 n1 j0 j1 q0 q1 q2=some (badP e a)
 ok:∀ c0 c1 c2 c3 c4 c5 d0 d1 w0 w1 w2 w3 w4 w5 g0 g1 n0 n1 j0 j1 q0 q1 q2 q3 q4,k0 c0 c1 c2 c3 c4 c5 d0 d1 [] 0 [] 0 [] 0 w0 w1 w2 w3 w4 w5 g0 g1 n0 n1 j0 j1 q0 q1 q2 q3 q4=some ((w0,w1,w2,w3,w4,w5,()),(0,0,()),())
theorem zer:∀ (r:List (List UInt8)) (acc:List TagL) (a:Int) (l:List TagL),tagsR r acc a = .ok l→(∀ t∈acc,tagGood t=true)→∀ t∈l,tagGood t=true
 | [],acc,a,l,h,hg=>by cases h; exact hg
 | p :: r,acc,a,l,h,hg=>by
  rw [tagsR] at h
  split at h
  · rename_i hc
    refine zer r _ _ _ h (fun t ht => ?_)
    rcases List.mem_append.1 ht with ht | ht
    · exact hg t ht
    · rw [List.mem_singleton.1 ht]; exact hc.1
  · cases h
theorem zok {t:TagL} (h:TagS t):TagLOK t:=⟨by have:=h.1; omega,by have:=h.2; omega⟩
theorem zam (n:Nat) (k0:K31) (kr:K29) (hk:K16OK k0 kr) (kn:List (Int×List UInt8)→Int→Int→List UInt8→Int→List DecL→Int→List TagL→Int→Int→Int→List UInt8→Int→List DecL→Int→List TagL→Int→List UInt8→Int→List DecL→Int→List TagL→Int→Int→List UInt8→Int→Int→Int→Int→Nat→Nat→Nat→Nat→Nat→Option ParseD) (v5:List (Int×List UInt8)) (last:Int) (i:Nat) (turn e a:Int) (p:List UInt8) (hi:v5[i]? = some (a,p)) (c0:List UInt8) (c1:Int) (c2:List DecL) (c3:Int) (c4:List TagL) (c5 d0 d1:Int) (w0:List UInt8) (w1:Int) (w2:List DecL) (w3:Int) (w4:List TagL) (w5:Int) (g0:Int) (g1:List UInt8) (n0 n1:Int) (j0 j1:Int) (q0 q1 q2 q3 q4:Nat) :
 F.za.C19 n kr kn v5 last (i:Int) turn e c0 c1 c2 c3 c4 c5 d0 d1 [] 0 [] 0 [] 0 w0 w1 w2 w3 w4 w5 g0 g1 n0 n1 j0 j1 q0 q1 q2 q3 q4=if turn≤last then some (badP 11 a) else if e≠0 then some (badP e a) else kn v5 turn (i:Int) c0 c1 c2 c3 c4 c5 d0 d1 [] 0 [] 0 [] 0 w0 w1 w2 w3 w4 w5 g0 g1 n0 n1 j0 j1 q0 q1 q2 q3 q4:=by
 unfold F.za.C19
 rw [zm,hi]
 by_cases h1:turn≤last
 · rw [zd h1,if_pos h1,za]
   exact hk.bad _ _ _ _ _ _ _ _ _ _ _ _ _ _ _ _ _ (by decide)
 · rw [ze h1,if_neg h1]
   by_cases h2:e=0
   · rw [h2,beq_self_eq_true,Bool.not_true,cond_false,if_neg (by simp)]
   · rw [beq_eq_false_iff_ne.2 h2,Bool.not_false,cond_true,if_pos h2,za]
     exact hk.bad _ _ _ _ _ _ _ _ _ _ _ _ _ _ _ _ _ h2
theorem zmm (n:Nat) (hn:200000≤n) (k0:K31) (kr:K29) (hk:K16OK k0 kr) (v5:List (Int×List UInt8)) (hv:v5.length≤10000) (c0:List UInt8) (c1:Int) (c2:List DecL) (c3:Int) (c4:List TagL) (c5 d0 d1:Int) (g0:Int) (g1:List UInt8) (n0 n1:Int) (j0 j1:Int) (q0 q1 q2 q3 q4:Nat) :
 ∀ (r:List (List UInt8)) (a:Int) (w:MetD) (last:Int) (i m:Nat),v5.drop i=atL r a→i≤v5.length→r.length<m→0≤last→sumL r≤9000 →
 F.za.L16 n k0 kr m v5 last (i:Int) c0 c1 c2 c3 c4 c5 d0 d1 [] 0 [] 0 [] 0 w.1 w.2.1 w.2.2.1 w.2.2.2.1 w.2.2.2.2.1 w.2.2.2.2.2.1 g0 g1 n0 n1 j0 j1 q0 q1 q2 q3 q4=some (outP (restR r a w last)):=by
 intro r
 induction r with
 | nil =>
  intro a w last i m h1 hi hm hl hs
  obtain ⟨m,rfl⟩:∃ q,m=q+1:=⟨m - 1,by omega⟩
  rw [atL] at h1
  rw [F.za.L16]
  unfold F.za.L16.step
  dsimp only
  rw [ze (by have:=zl h1; omega),restR]
  exact hk.ok _ _ _ _ _ _ _ _ _ _ _ _ _ _ _ _ _ _ _ _ _ _ _ _ _
 | cons p r ih =>
  intro a w last i m h1 hi hm hl hs
  obtain ⟨m,rfl⟩:∃ q,m=q+1:=⟨m - 1,by simp at hm; omega⟩
  rw [atL] at h1
  obtain ⟨l1,gg,t1⟩:=zk h1
  simp only [List.length_cons] at hm
  simp only [sumL,List.map_cons,List.sum_cons] at hs
  have next:∀ (w':MetD) (last':Int),0≤last'→F.za.L16 n k0 kr m v5 last' ((i+1:Nat):Int) c0 c1 c2 c3 c4 c5 d0 d1 [] 0 [] 0 [] 0 w'.1 w'.2.1 w'.2.2.1 w'.2.2.2.1 w'.2.2.2.2.1 w'.2.2.2.2.2.1 g0 g1 n0 n1 j0 j1 q0 q1 q2 q3 q4=some (outP (restR r (a+p.length+1) w' last')):=fun w' last' hl'=>ih _ w' last' (i+1) m t1 (by omega) (by omega) hl' (by simp only [sumL]; omega)
  have hw:IntKind.wrap .i64 ((i:Int)+1)=((i+1:Nat):Int):=zh (by omega)
  have hww:(w.1,w.2.1,w.2.2.1,w.2.2.2.1,w.2.2.2.2.1,w.2.2.2.2.2.1,())=w:=rfl
  rw [F.za.L16]
  unfold F.za.L16.step
  dsimp only
  rw [zd (by omega),zm,gg,za,restR]
  dsimp only
  cases p with
  | nil =>
   rw [beq_self_eq_true,cond_true,moreR]
   refine (zam n k0 kr hk _ v5 last i 0 11 a [] gg _ _ _ _ _ _ _ _ _ _ _ _ _ _ _ _ _ _ _ _ _ _ _ _ _).trans ?_
   rw [if_pos hl]; rfl
  | cons x s =>
   have hsub:sub (x::s) 1 ((x::s).length:Int)=some s:=by
    rw [show (1:Int)=((1:Nat):Int) from rfl,zo (x::s) 1 _ (by simp) (by omega),List.take_length]; rfl
   have b64:(((x.toNat:Nat):Int)==64)=decide (x=64):=zaq x 64
   have b35:(((x.toNat:Nat):Int)==35)=decide (x=35):=zaq x 35
   have b84:(((x.toNat:Nat):Int)==84)=decide (x=84):=zaq x 84
   simp only [List.length_cons] at hs
   rw [show ((x::s)==([]:List UInt8))=false from rfl,cond_false,hsub,za,show idx (x::s) 0=some x from rfl,za,b64,b35,b84,moreR]
   by_cases h64:x=64
   · rw [decide_eq_true h64,cond_true,if_pos h64,zl4 n (by omega) s (by omega) (by omega),za,zmk]
     by_cases hl1:0<last
     · rw [if_pos hl1]
       have hle:(1:Int)≤last:=by omega
       cases decide ((rateR s).2.1.1=0)
       · rw [Bool.not_false,cond_true]
         refine (zam n k0 kr hk _ v5 last i 1 18 a _ gg _ _ _ _ _ _ _ _ _ _ _ _ _ _ _ _ _ _ _ _ _ _ _ _ _).trans ?_
         rw [if_pos hle]; rfl
       · rw [Bool.not_true,cond_false]
         cases (w.2.1==2)
         · rw [cond_false]
           refine (zam n k0 kr hk _ v5 last i 1 0 a _ gg _ _ _ _ _ _ _ _ _ _ _ _ _ _ _ _ _ _ _ _ _ _ _ _ _).trans ?_
           rw [if_pos hle]; rfl
         · rw [cond_true]
           cases ((rateR s).1==1000000)
           · rw [Bool.not_false,cond_true]
             refine (zam n k0 kr hk _ v5 last i 1 18 a _ gg _ _ _ _ _ _ _ _ _ _ _ _ _ _ _ _ _ _ _ _ _ _ _ _ _).trans ?_
             rw [if_pos hle]; rfl
           · rw [Bool.not_true,cond_false]
             refine (zam n k0 kr hk _ v5 last i 1 0 a _ gg _ _ _ _ _ _ _ _ _ _ _ _ _ _ _ _ _ _ _ _ _ _ _ _ _).trans ?_
             rw [if_pos hle]; rfl
     · have hle:¬ (1:Int)≤last:=by omega
       rw [if_neg hl1]
       have good:F.za.C19 n kr (fun e20_5 e20_8 e20_9 b0_0 b0_1 b0_2 b0_3 b0_4 b0_5 b1_0 b1_1 b2_0 b2_1 b2_2 b2_3 b2_4 b2_5 b3_0 b3_1 b3_2 b3_3 b3_4 b3_5 b4_0 b4_1 b5_0 b5_1 b6_0 b6_1 y0 y1 y2 y3 y4=>F.za.L16 n k0 kr m e20_5 e20_8 (IntKind.wrap .i64 (e20_9+(1:Int))) b0_0 b0_1 b0_2 b0_3 b0_4 b0_5 b1_0 b1_1 b2_0 b2_1 b2_2 b2_3 b2_4 b2_5 b3_0 b3_1 b3_2 b3_3 b3_4 b3_5 b4_0 b4_1 b5_0 b5_1 b6_0 b6_1 y0 y1 y2 y3 y4) v5 last (i:Int) 1 0 c0 c1 c2 c3 c4 c5 d0 d1 [] 0 [] 0 [] 0 w.1 w.2.1 w.2.2.1 (rateR s).1 w.2.2.2.2.1 w.2.2.2.2.2.1 g0 g1 n0 n1 j0 j1 q0 q1 q2 q3 q4=some (outP (restR r (a+(x::s).length+1) (w.1,w.2.1,w.2.2.1,(rateR s).1,w.2.2.2.2.1,w.2.2.2.2.2.1,()) 1)):=by
        refine (zam n k0 kr hk _ v5 last i 1 0 a _ gg _ _ _ _ _ _ _ _ _ _ _ _ _ _ _ _ _ _ _ _ _ _ _ _ _).trans ?_
        rw [if_neg hle,if_neg (by simp),hw]
        exact next (w.1,w.2.1,w.2.2.1,(rateR s).1,w.2.2.2.2.1,w.2.2.2.2.2.1,()) 1 (by omega)
       by_cases h0:(rateR s).2.1.1=0
       · rw [decide_eq_true h0,Bool.not_true,cond_false]
         by_cases h2:w.2.1=2
         · rw [h2,beq_self_eq_true,cond_true]
           by_cases h1:(rateR s).1=1000000
           · rw [h1,beq_self_eq_true,Bool.not_true,cond_false,if_neg (by simp [h0])]
             rw [h1,h2] at good
             exact good
           · rw [beq_eq_false_iff_ne.2 h1,Bool.not_false,cond_true,if_pos (by simp [h1])]
             refine (zam n k0 kr hk _ v5 last i 1 18 a _ gg _ _ _ _ _ _ _ _ _ _ _ _ _ _ _ _ _ _ _ _ _ _ _ _ _).trans ?_
             rw [if_neg hle,if_pos (by decide)]; rfl
         · rw [beq_eq_false_iff_ne.2 h2,cond_false,if_neg (by simp [h0,h2])]
           exact good
       · rw [decide_eq_false h0,Bool.not_false,cond_true,if_pos (by simp [h0])]
         refine (zam n k0 kr hk _ v5 last i 1 18 a _ gg _ _ _ _ _ _ _ _ _ _ _ _ _ _ _ _ _ _ _ _ _ _ _ _ _).trans ?_
         rw [if_neg hle,if_pos (by decide)]; rfl
   rw [decide_eq_false h64,cond_false,if_neg h64]
   by_cases h35:x=35
   · have hsl:=zao 44 s
     have hsn:=zau (splitL 44 s)
     rw [decide_eq_true h35,cond_true,if_pos h35,zvx n hn s (by omega),za]
     cases hT:tagsR (splitL 44 s) [] 0 with
     | error e =>
      dsimp only
      have hnn:F.zh n []=some (normT []):=zc6 n hn [] (by simp) (fun t ht=>by cases ht)
      rw [hnn,za,show ((19:Int)==0)=false from rfl,Bool.false_and,Bool.not_false,cond_true]
      refine (zam n k0 kr hk _ v5 last i 2 19 a _ gg _ _ _ _ _ _ _ _ _ _ _ _ _ _ _ _ _ _ _ _ _ _ _ _ _).trans ?_
      by_cases hl1:1<last
      · rw [if_pos hl1,if_pos (by omega)]; rfl
      · rw [if_neg hl1,if_neg (by omega),if_pos (by decide)]; rfl
     | ok l =>
      have hll:=zfu _ _ _ _ hT
      have hgd:=zer _ _ _ _ hT (fun t ht=>by cases ht)
      simp only [List.length_nil,Nat.zero_add] at hll
      dsimp only
      have hnn:F.zh n l=some (normT l):=zc6 n hn l (by omega) (fun t ht=>zok (zcs (hgd t ht)))
      rw [hnn,za,beq_self_eq_true,Bool.and_self,Bool.not_true,cond_false,bdec]
      by_cases h32:32<l.length
      · rw [if_pos (by omega),if_pos h32]
        refine (zam n k0 kr hk _ v5 last i 2 19 a _ gg _ _ _ _ _ _ _ _ _ _ _ _ _ _ _ _ _ _ _ _ _ _ _ _ _).trans ?_
        by_cases hl1:1<last
        · rw [if_pos hl1,if_pos (by omega)]; rfl
        · rw [if_neg hl1,if_neg (by omega),if_pos (by decide)]; rfl
      · rw [if_neg (by omega),if_neg h32]
        refine (zam n k0 kr hk _ v5 last i 2 0 a _ gg _ _ _ _ _ _ _ _ _ _ _ _ _ _ _ _ _ _ _ _ _ _ _ _ _).trans ?_
        by_cases hl1:1<last
        · rw [if_pos hl1,if_pos (by omega)]; rfl
        · rw [if_neg hl1,if_neg (by omega),if_neg (by simp),hw]
          exact next (w.1,w.2.1,w.2.2.1,w.2.2.2.1,normT l,w.2.2.2.2.2.1,()) 2 (by omega)
   rw [decide_eq_false h35,cond_false,if_neg h35]
   by_cases h84:x=84
   · have htm:F.zbq n s=some (parseNum s 1 1099511627776):=by
      unfold F.zbq
      rw [zjv n (by omega) s 1 1099511627776 (by omega) (by omega)]; rfl
     rw [decide_eq_true h84,cond_true,if_pos h84,htm,za,zml]
     by_cases h0:(parseNum s 1 1099511627776).2.1.1=0
     · rw [decide_eq_true h0,Bool.not_true,cond_false]
       refine (zam n k0 kr hk _ v5 last i 3 0 a _ gg _ _ _ _ _ _ _ _ _ _ _ _ _ _ _ _ _ _ _ _ _ _ _ _ _).trans ?_
       by_cases hl1:2<last
       · rw [if_pos hl1,if_pos (by omega)]; rfl
       · rw [if_neg hl1,if_neg (by omega),if_neg (by simp),if_neg (by simp [h0]),hw]
         exact next (w.1,w.2.1,w.2.2.1,w.2.2.2.1,w.2.2.2.2.1,(parseNum s 1 1099511627776).1,()) 3 (by omega)
     · rw [decide_eq_false h0,Bool.not_false,cond_true]
       refine (zam n k0 kr hk _ v5 last i 3 20 a _ gg _ _ _ _ _ _ _ _ _ _ _ _ _ _ _ _ _ _ _ _ _ _ _ _ _).trans ?_
       by_cases hl1:2<last
       · rw [if_pos hl1,if_pos (by omega)]; rfl
       · rw [if_neg hl1,if_neg (by omega),if_pos (by decide),if_pos h0]; rfl
   rw [decide_eq_false h84,cond_false,if_neg h84]
   refine (zam n k0 kr hk _ v5 last i 0 11 a _ gg _ _ _ _ _ _ _ _ _ _ _ _ _ _ _ _ _ _ _ _ _ _ _ _ _).trans ?_
   rw [if_pos hl]; rfl
end Go.AM
set_option linter.unusedVariables false
set_option linter.unusedSimpArgs false
namespace Go.AM
theorem zmn (n:Nat) (s:List UInt8) (ps:List (Int×List UInt8)) (c0:List UInt8) (c1:Int) (c2:List DecL) (c3:Int) (c4:List TagL) (c5 d0 d1:Int) (w0:List UInt8) (w1:Int) (w2:List DecL) (w3:Int) (w4:List TagL) (w5 g0:Int) (g1:List UInt8) (n0 n1 e a:Int) (he:e≠0) (q0 q1 q2 q3 q4 q5:Nat) :
 F.za.C7 n (fun b0_0 b0_1 b0_2 b0_3 b0_4 b0_5 b1_0 b1_1 k0=>some (((b0_0,b0_1,b0_2,b0_3,b0_4,b0_5,()),(b1_0,b1_1,()),()))) s ps c0 c1 c2 c3 c4 c5 d0 d1 [] 0 [] 0 [] 0 w0 w1 w2 w3 w4 w5 g0 g1 n0 n1 e a q0 q1 q2 q3 q4 q5=some (badP e a):=by
 unfold F.za.C7
 rw [beq_eq_false_iff_ne.2 he,Bool.false_and,Bool.not_false,cond_true]
 rfl
theorem zdz:∀ (r:List (List UInt8)) (a:Int),(atL r a).length=r.length
 | [],_=>rfl
 | p::r,a=>by simp [atL,zdz r]
theorem zy2 (n:Nat) (hn:200000≤n) (s p:List UInt8) (r:List (List UInt8)) (hs:sumL (p::r)≤9000) (c0:List UInt8) (c1:Int) (c2:List DecL) (c3:Int) (c4:List TagL) (c5 d0 d1:Int) (nm:List UInt8) (vs:List DecL) (g0:Int) (g1:List UInt8) (n0 n1:Int) (q0 q1 q2 q3 q4 q5:Nat) :
 F.za.C7 n (fun b0_0 b0_1 b0_2 b0_3 b0_4 b0_5 b1_0 b1_1 k0=>some (((b0_0,b0_1,b0_2,b0_3,b0_4,b0_5,()),(b1_0,b1_1,()),()))) s (atL (p::r) 0) c0 c1 c2 c3 c4 c5 d0 d1 [] 0 [] 0 [] 0 nm 0 vs 1000000 [] 0 g0 g1 n0 n1 0 0 q0 q1 q2 q3 q4 q5=some (outP (secondR s p nm vs r)):=by
 have hl:=zdz (p::r) 0
 unfold F.za.C7
 rw [beq_self_eq_true,Bool.and_self,Bool.not_true,cond_false,hl]
 cases r with
 | nil=>rfl
 | cons q r =>
  have e1:(((p::q::r).length:Int)==1)=false:=by
   rw [beq_eq_false_iff_ne]; simp only [List.length_cons]; omega
  have e2:idx (atL (p::q::r) 0) 1=some (0+(p.length:Int)+1,q):=rfl
  rw [e1,cond_false,e2,za]
  dsimp only
  rw [zpt n (by omega),za,secondR]
  by_cases h0:kindR q=0
  · rw [if_pos h0,h0,beq_self_eq_true,cond_true,za]
    dsimp only
    rw [show (0:Int)+(p.length:Int)+1=(p.length:Int)+1 by omega]
    rfl
  · rw [if_neg h0,beq_eq_false_iff_ne.2 h0,cond_false]
    have hsum:=zau (p::q::r)
    simp only [sumL,List.map_cons,List.sum_cons] at hs
    have:=zmm n hn
     (fun e47_b0_0 e47_b0_1 e47_b0_2 e47_b0_3 e47_b0_4 e47_b0_5 e47_b1_0 e47_b1_1 e47_b2_0 e47_b2_1 e47_b2_2 e47_b2_3 e47_b2_4 e47_b2_5 e47_b3_0 e47_b3_1 e47_b3_2 e47_b3_3 e47_b3_4 e47_b3_5 e47_b4_0 e47_b4_1 e47_b5_0 e47_b5_1 e47_b6_0 e47_b6_1 e47_k0 e47_k1 e47_k2 e47_k3 e47_k4=>some (((e47_b3_0,e47_b3_1,e47_b3_2,e47_b3_3,e47_b3_4,e47_b3_5,()),(0,0,()),())))
     (fun e48_b0_0 e48_b0_1 e48_b0_2 e48_b0_3 e48_b0_4 e48_b0_5 e48_b1_0 e48_b1_1 e48_b2_0 e48_b2_1 e48_b2_2 e48_b2_3 e48_b2_4 e48_b2_5 e48_b3_0 e48_b3_1 e48_b3_2 e48_b3_3 e48_b3_4 e48_b3_5 e48_b4_0 e48_b4_1 e48_b5_0 e48_b5_1 e48_b6_0 e48_b6_1 e48_k0 e48_k1 e48_k4=>some (((e48_b0_0,e48_b0_1,e48_b0_2,e48_b0_3,e48_b0_4,e48_b0_5,()),(e48_b1_0,e48_b1_1,()),())))
     ⟨by intros; rfl,by intros; rfl⟩ (atL (p::q::r) 0) (by rw [hl]; simp only [sumL,List.map_cons,List.sum_cons] at hsum; omega) c0 c1 c2 c3 c4 c5 d0 d1 g0 g1 n0 n1 0 0 q0 q1 q2 q3 q4 r (0+(p.length:Int)+1+q.length+1) (nm,kindR q,vs,1000000,[],0,()) 0 2 n rfl (by rw [hl]; simp) (by simp only [sumL,List.map_cons,List.sum_cons] at hsum; simp at hsum; omega) (by omega) (by simp only [sumL]; omega)
    rw [show (0:Int)+(p.length:Int)+1+q.length+1=(p.length:Int)+1+(q.length+1) by omega] at this
    exact this
theorem zkb (n:Nat) (hn:200000≤n) (k0 kr:K30) (v5:List (Int×List UInt8)) (hv:v5.length≤10000) (c0:List UInt8) (c1:Int) (c2:List DecL) (c3:Int) (c4:List TagL) (c5 d0 d1:Int) (z0:List UInt8) (z1:Int) (z2:List DecL) (z3:Int) (z4:List TagL) (z5:Int) (w0:List UInt8) (w1 w3:Int) (w4:List TagL) (w5 g0:Int) (g1:List UInt8) (q0 q1 q2 q3 q5:Nat)
 (hbad:∀ acc a l,kr c0 c1 c2 c3 c4 c5 d0 d1 z0 z1 z2 z3 z4 z5 w0 w1 acc w3 w4 w5 g0 g1 17 a q0 q1 q2 q3 l q5=some (badP 17 a)) :
 ∀ (r:List (List UInt8)) (acc:List DecL) (a:Int) (i m:Nat),v5.drop i=atL r a→acc.length+1=i→i≤v5.length→acc.length≤64→r.length<m→sumL r≤9000 →
 F.za.L8_ref11_First n k0 kr m v5 (i:Int) c0 c1 c2 c3 c4 c5 d0 d1 z0 z1 z2 z3 z4 z5 w0 w1 acc w3 w4 w5 g0 g1 0 0 q0 q1 q2 q3 acc.length q5=match readVals r acc a with
  | .ok vs=>k0 c0 c1 c2 c3 c4 c5 d0 d1 z0 z1 z2 z3 z4 z5 w0 w1 vs w3 w4 w5 g0 g1 0 0 q0 q1 q2 q3 vs.length q5
  | .error b=>some (badP 17 b):=by
 intro r
 induction r with
 | nil =>
  intro acc a i m h1 h2 hi h64 hm hs
  obtain ⟨m,rfl⟩:∃ q,m=q+1:=⟨m - 1,by omega⟩
  rw [atL] at h1
  rw [F.za.L8_ref11_First]
  unfold F.za.L8_ref11_First.step
  dsimp only
  rw [ze (by have:=zl h1; omega)]
  rfl
 | cons p r ih =>
  intro acc a i m h1 h2 hi h64 hm hs
  obtain ⟨m,rfl⟩:∃ q,m=q+1:=⟨m - 1,by simp at hm; omega⟩
  rw [atL] at h1
  obtain ⟨l1,gg,t1⟩:=zk h1
  simp only [List.length_cons] at hm
  simp only [sumL,List.map_cons,List.sum_cons] at hs
  rw [F.za.L8_ref11_First]
  unfold F.za.L8_ref11_First.step
  dsimp only
  rw [zd (by omega),zm,gg]
  simp only [za]
  rw [zdp n hn p (by omega),za,zh3,readVals]
  by_cases h0:(parseR p).2.1.1=0
  · rw [decide_eq_true h0,Bool.not_true,cond_false]
    by_cases h6:acc.length=64
    · rw [zd (by omega),if_neg (by simp [h6])]
      exact hbad _ _ _
    · rw [ze (by omega),if_pos ⟨h0,h6⟩,zel (by omega),Nat.beq_refl,cond_true,zh (by omega)]
      exact ih (acc++[((parseR p).1.1,(parseR p).1.2.1,(parseR p).1.2.2.1)]) (a+p.length+1) (i+1) m t1 (by simp; omega) (by omega) (by simp; omega) (by omega) (by simp only [sumL]; omega)
  · rw [decide_eq_false h0,Bool.not_false,cond_true,if_neg (by simp [h0])]
    exact hbad _ _ _
theorem znl (n:Nat) (hn:200000≤n) (s:List UInt8) (hs:s.length≤100000):F.za n s=some (parseD s):=by
 unfold F.za parseD
 rw [bdec]
 by_cases h:8192<s.length
 · rw [if_pos (by omega),if_pos h]; rfl
 · rw [if_neg (by omega),if_neg h]
   have hsum:=zao 124 s
   have hc1:F.zat n s 124 0=some (atL (splitL 124 s) 0):=zoi n hn 124 s 0 (by omega) (by omega)
   rw [hc1,za]
   have hne:=zag 124 s
   generalize splitL 124 s=ps at hsum hne
   cases ps with
   | nil=>exact absurd rfl hne
   | cons p r =>
    have hp:=zca (show p∈p::r by simp)
    have hseg:=z6 58 p
    have hc2:F.zat n p 58 0=some (atL (splitL 58 p) 0):=zoi n hn 58 p 0 (by omega) (by omega)
    rw [show idx (atL (p::r) 0) 0=some (0,p) from rfl,za]
    dsimp only
    rw [hc2,za]
    have hi0:idx (atL (splitL 58 p) 0) 0=some (0,seg 58 p):=by
     rw [zep]
     by_cases hin:(58:UInt8)∈p
     · rw [if_pos hin]; rfl
     · rw [if_neg hin,(zg9 hin).1]; rfl
    rw [hi0,za]
    dsimp only
    rw [zlv n hn _ (by omega),za,linesR]
    unfold firstR
    cases hnm:nameOK (seg 58 p)
    · rw [Bool.not_false,cond_true,if_pos rfl]
      exact zmn n s _ [] 0 [] 0 [] 0 0 0 _ _ _ _ _ _ _ _ _ _ 15 0 (by decide) _ _ _ _ _ _
    · rw [Bool.not_true,cond_false,if_neg (by simp),zdz,zep]
      by_cases hin:(58:UInt8)∈p
      · have hsum2:=zao 58 (restN 58 p)
        have hsn:=zau (splitL 58 (restN 58 p))
        have hne2:=zag 58 (restN 58 p)
        have hpos:0<(splitL 58 (restN 58 p)).length:=List.length_pos_iff.2 hne2
        have hrn:=zeo 58 p
        have e1:((((seg 58 p::splitL 58 (restN 58 p)).length:Nat):Int)==1)=false:=by
         rw [beq_eq_false_iff_ne]; simp only [List.length_cons]; omega
        rw [if_pos hin,e1,cond_false,if_neg (by simp [hin])]
        refine (zkb n hn _ _ (atL (seg 58 p::splitL 58 (restN 58 p)) 0) (by rw [zdz]; simp only [List.length_cons]; omega) [] 0 [] 0 [] 0 0 0 [] 0 [] 0 [] 0 (seg 58 p) 0 1000000 [] 0 0 p 0 0 0 0 0 ?_ (splitL 58 (restN 58 p)) [] (0+((seg 58 p).length:Int)+1) 1 n rfl rfl (by rw [zdz]; simp only [List.length_cons]; omega) (by simp) (by omega) (by omega)).trans ?_
        · intro acc a l
          exact zmn n s _ [] 0 [] 0 [] 0 0 0 _ _ _ _ _ _ _ _ _ _ 17 a (by decide) _ _ _ _ _ _
        · rw [show (0:Int)+((seg 58 p).length:Int)+1=((seg 58 p).length:Int)+1 by omega]
          cases readVals (splitL 58 (restN 58 p)) [] (((seg 58 p).length:Int)+1) with
          | error b=>rfl
          | ok vs=>exact zy2 n hn s p r (by omega) [] 0 [] 0 [] 0 0 0 (seg 58 p) vs 0 p 0 0 _ _ _ _ _ _
      · rw [if_neg hin,show ((([p]:List (List UInt8)).length:Int)==1)=true from rfl,cond_true,if_pos hin]
        have hw:IntKind.wrap .i64 (0+(p.length:Int))=(p.length:Int):=by rw [Int.zero_add,zi (by omega)]
        rw [hw]
        exact zmn n s _ [] 0 [] 0 [] 0 0 0 _ _ _ _ _ _ _ _ _ _ 11 _ (by decide) _ _ _ _ _ _
end Go.AM
set_option linter.unusedVariables false
set_option linter.unusedSimpArgs false
namespace Go.AM
structure InvM (m:MetD):Prop where
 nm:nameOK m.1=true
 kd:kindB m.2.1=true
 vs:(∀ d∈m.2.2.1,DecLOK d∧decC d=0)∧1≤m.2.2.1.length∧m.2.2.1.length≤64
 rt:rateB m.2.1 m.2.2.2.1=true
 tg:(∀ t∈m.2.2.2.2.1,tagGood t=true)∧m.2.2.2.2.1.length≤32∧StrictT m.2.2.2.2.1
 tm:timeB m.2.2.2.2.2.1=true
theorem InvM.right {m:MetD} (h:InvM m):RightM m:=by
 have hn:=zfs h.nm
 refine ⟨⟨by omega,⟨by have:=h.vs.2.2; omega,fun d hd=>(h.vs.1 d hd).1⟩,by have:=h.tg.2.1; omega,fun t ht=>zok (zcs (h.tg.1 t ht))⟩,?_⟩
 have hv:valsB m.2.2.1=true:=by
  unfold valsB
  simp only [Bool.and_eq_true,decide_eq_true_eq]
  exact ⟨h.vs.2.1,h.vs.2.2,List.all_eq_true.2 (fun d hd=>by simp [(h.vs.1 d hd).2])⟩
 have ht:tagsB m.2.2.2.2.1=true:=by
  unfold tagsB
  simp only [Bool.and_eq_true,decide_eq_true_eq]
  exact ⟨h.tg.2.1,List.all_eq_true.2 h.tg.1⟩
 unfold chkM
 rw [h.nm,h.kd,hv,h.rt,ht,h.tm]
 rfl
theorem RightM.inv {m:MetD} (h:RightM m) (hs:StrictT m.2.2.2.2.1):InvM m:=by
 obtain ⟨c1,c2,c3,c4,c5,c6⟩:=za7 h.chk
 have ht:=zen h
 exact ⟨c1,c2,zct h,c4,⟨fun t htm=>(ht.1 t htm).2,ht.2,hs⟩,c6⟩
theorem zpu {p:List UInt8} (h:(parseR p).2.1.1=0):DecLOK ((parseR p).1.1,(parseR p).1.2.1,(parseR p).1.2.2.1)∧decC ((parseR p).1.1,(parseR p).1.2.1,(parseR p).1.2.2.1)=0:=by
 obtain ⟨neg,c,e,h1,h2,h3,h4⟩:=zvc h
 rw [h1]
 refine ⟨⟨trivial,⟨by simp,?_⟩,h3⟩,h4⟩
 have:=zz
 simp only
 omega
theorem zgr:∀ (r:List (List UInt8)) (acc:List DecL) (a:Int) (vs:List DecL),readVals r acc a = .ok vs→(∀ d∈acc,DecLOK d∧decC d=0)→acc.length≤64→(∀ d∈vs,DecLOK d∧decC d=0)∧vs.length≤64∧vs.length=acc.length+r.length
 | [],acc,a,vs,h,hd,hl=>by cases h; exact ⟨hd,hl,by simp⟩
 | p :: r,acc,a,vs,h,hd,hl=>by
  rw [readVals] at h
  split at h
  · rename_i hc
    have hr:=zgr r _ _ _ h (fun d hd'=>by
     rcases List.mem_append.1 hd' with hd' | hd'
     · exact hd d hd'
     · rw [List.mem_singleton.1 hd']; exact zpu hc.1) (by simp; omega)
    refine ⟨hr.1,hr.2.1,?_⟩
    have:=hr.2.2
    simp at this ⊢
    omega
  · cases h
theorem zfv:∀ (r:List (List UInt8)) (acc:List DecL) (a b:Int),readVals r acc a = .error b→a≤b∧b<a+sumL r
 | [],acc,a,b,h=>by cases h
 | p :: r,acc,a,b,h=>by
  rw [readVals] at h
  simp only [sumL,List.map_cons,List.sum_cons]
  split at h
  · have:=zfv r _ _ _ h
    simp only [sumL] at this
    omega
  · cases h; omega
theorem zvy {s:List UInt8} (h:kindR s≠0):kindB (kindR s)=true:=by
 revert h
 unfold kindR
 repeat' split
 all_goals first | (intro _; rfl) | (intro h; exact absurd rfl h)
theorem zvz {m:MetD} (h:InvM m) {last:Int} {p:List UInt8} {m':MetD} {l:Int} (hr:moreR m last p = .ok (m',l)):InvM m':=by
 cases p with
 | nil=>cases hr
 | cons x s =>
  rw [moreR] at hr
  split at hr
  · split at hr
    · cases hr
    · split at hr
      · cases hr
      · rename_i hc
        cases hr
        have h0:(rateR s).2.1.1=0:=Classical.byContradiction fun hh=>hc (Or.inl hh)
        obtain ⟨_,r1,r2,_⟩:=ziq h0
        refine ⟨h.nm,h.kd,h.vs,?_,h.tg,h.tm⟩
        unfold rateB
        simp only [Bool.and_eq_true,decide_eq_true_eq]
        refine ⟨r1,r2,?_⟩
        by_cases h2:m.2.1=2
        · have:(rateR s).1=1000000:=Classical.byContradiction fun hh=>hc (Or.inr ⟨h2,hh⟩)
          simp [this]
        · simp [h2]
  · split at hr
    · split at hr
      · cases hr
      · split at hr
        · cases hr
        · rename_i l' hT
          split at hr
          · cases hr
          · rename_i h32
            cases hr
            have hg:=zer _ _ _ _ hT (fun t ht=>by cases ht)
            refine ⟨h.nm,h.kd,h.vs,h.rt,⟨fun t ht=>hg t ((zck _ _).1 ht),?_,zb0 _⟩,h.tm⟩
            have:=zdh l'
            show (normT l').length≤32
            omega
    · split at hr
      · split at hr
        · cases hr
        · split at hr
          · cases hr
          · rename_i hc
            cases hr
            have h0:(parseNum s 1 1099511627776).2.1.1=0:=Classical.byContradiction hc
            obtain ⟨_,r1,r2,r3,r4,_⟩:=zeh h0
            refine ⟨h.nm,h.kd,h.vs,h.rt,h.tg,?_⟩
            unfold timeB
            simp only [Bool.and_eq_true,decide_eq_true_eq]
            rw [r1]
            omega
      · cases hr
theorem zsg {m:MetD} {last:Int} {p:List UInt8} {e:Int} (hr:moreR m last p = .error e):e≠0:=by
 cases p with
 | nil=>cases hr; decide
 | cons x s =>
  rw [moreR] at hr
  split at hr
  · split at hr
    · cases hr; decide
    · split at hr<;>cases hr; decide
  · split at hr
    · split at hr
      · cases hr; decide
      · split at hr
        · cases hr; decide
        · split at hr<;>cases hr; decide
    · split at hr
      · split at hr
        · cases hr; decide
        · split at hr<;>cases hr; decide
      · cases hr; decide
theorem zmo:∀ (r:List (List UInt8)) (a:Int) (m:MetD) (last:Int),InvM m→(∀ m',restR r a m last = .ok m'→InvM m')∧(∀ e b,restR r a m last = .error (e,b)→e≠0∧a≤b∧b<a+sumL r)
 | [],a,m,last,h=>⟨fun m' hr=>by cases hr; exact h,fun e b hr=>by cases hr⟩
 | p :: r,a,m,last,h=>by
  rw [restR]
  simp only [sumL,List.map_cons,List.sum_cons]
  cases hm:moreR m last p with
  | error e=>exact ⟨fun m' hr=>(by cases hr),fun e b hr=>by cases hr; exact ⟨zsg hm,by omega,by omega⟩⟩
  | ok x =>
   obtain ⟨m1,l1⟩:=x
   obtain ⟨h1,h2⟩:=zmo r (a+p.length+1) m1 l1 (zvz h hm)
   refine ⟨h1,fun e b hr => ?_⟩
   have:=h2 e b hr
   simp only [sumL] at this
   omega
theorem zsh {s:List UInt8} {nm:List UInt8} {vs:List DecL} (h:firstR s = .ok (nm,vs)):nameOK nm=true∧(∀ d∈vs,DecLOK d∧decC d=0)∧1≤vs.length∧vs.length≤64:=by
 unfold firstR at h
 split at h
 · cases h
 · rename_i hnm
   split at h
   · cases h
   · split at h
     · rename_i vs' hv
       cases h
       obtain ⟨h1,h2,h3⟩:=zgr _ _ _ _ hv (fun d hd=>by cases hd) (by simp)
       have:=List.length_pos_iff.2 (zag 58 (restN 58 s))
       simp only [List.length_nil,Nat.zero_add] at h3
       exact ⟨by simpa using hnm,h1,by omega,h2⟩
     · cases h
theorem zpv {s:List UInt8} {e a:Int} (h:firstR s = .error (e,a)):e≠0∧0≤a∧a≤s.length:=by
 unfold firstR at h
 split at h
 · cases h; exact ⟨by decide,by omega,by omega⟩
 · split at h
   · cases h; exact ⟨by decide,by omega,by omega⟩
   · rename_i hin
     split at h
     · cases h
     · rename_i b hv
       cases h
       have h1:=zfv _ _ _ _ hv
       have h2:=zao 58 (restN 58 s)
       have hin':(58:UInt8)∈s:=Classical.byContradiction hin
       have h3:(restN 58 s).length=s.length - ((seg 58 s).length+1):=by unfold restN; rw [if_pos hin',List.length_drop]
       have h4:=zae hin'
       exact ⟨by decide,by omega,by omega⟩
theorem zsi (s:List UInt8) (ps:List (List UInt8)) (hsum:sumL ps=s.length+1):(∀ m,linesR s ps = .ok m→InvM m)∧(∀ e a,linesR s ps = .error (e,a)→e≠0∧0≤a∧a≤s.length):=by
 cases ps with
 | nil=>exact ⟨fun m h=>(by cases h),fun e a h=>by cases h; exact ⟨by decide,by omega,by omega⟩⟩
 | cons p r =>
  simp only [sumL,List.map_cons,List.sum_cons] at hsum
  rw [linesR]
  cases hf:firstR p with
  | error x =>
   obtain ⟨e,a⟩:=x
   refine ⟨fun m h=>(by cases h),fun e a h => ?_⟩
   cases h
   have:=zpv hf
   exact ⟨this.1,this.2.1,by omega⟩
  | ok x =>
   obtain ⟨nm,vs⟩:=x
   obtain ⟨h1,h2,h3,h4⟩:=zsh hf
   dsimp only
   cases r with
   | nil =>
    rw [secondR]
    exact ⟨fun m h=>(by cases h),fun e a h=>by cases h; exact ⟨by decide,by omega,by omega⟩⟩
   | cons q r =>
    simp only [List.map_cons,List.sum_cons] at hsum
    rw [secondR]
    by_cases h0:kindR q=0
    · rw [if_pos h0]
      exact ⟨fun m h=>(by cases h),fun e a h=>by cases h; exact ⟨by decide,by omega,by omega⟩⟩
    · rw [if_neg h0]
      have inv:InvM (nm,kindR q,vs,1000000,[],0,()):=⟨h1,zvy h0,⟨h2,h3,h4⟩,by
       unfold rateB; simp,⟨fun t ht=>(by cases ht),by simp,List.Pairwise.nil⟩,(show timeB 0=true by decide)⟩
      obtain ⟨g1,g2⟩:=zmo r ((p.length:Int)+1+(q.length+1)) _ 0 inv
      refine ⟨g1,fun e a h => ?_⟩
      have:=g2 e a h
      simp only [sumL] at this
      omega
theorem zmp (s:List UInt8):((parseD s).2.1=(0,0,())∧InvM (parseD s).1)∨(∃ e a,e≠0∧0≤a∧a≤(s.length:Int)∧parseD s=badP e a):=by
 unfold parseD
 split
 · exact Or.inr ⟨12,0,by decide,by omega,by omega,rfl⟩
 · obtain ⟨h1,h2⟩:=zsi s (splitL 124 s) (zao 124 s)
   cases hl:linesR s (splitL 124 s) with
   | ok m=>exact Or.inl ⟨rfl,h1 m hl⟩
   | error x =>
    obtain ⟨e,a⟩:=x
    obtain ⟨g1,g2,g3⟩:=h2 e a hl
    exact Or.inr ⟨e,a,g1,g2,g3,rfl⟩
end Go.AM
set_option linter.unusedVariables false
set_option linter.unusedSimpArgs false
namespace Go.AM
end Go.AM
set_option linter.unusedVariables false
set_option linter.unusedSimpArgs false
namespace Go.AM
def sdM (s:List UInt8):MetR:=(sdParse s).getD (badM 11 0)
theorem zh4 (s:List UInt8):sdParse s=some (sdM s):=by
 unfold sdM
 rcases zl6 s with ⟨c,a,h,_⟩ | ⟨_,_,_,_,_,_,_,_,_,_,_,_,_,h⟩<;>rw [h]<;>rfl
def fmtB (f:Int):Bool:=decide (1≤f)&&decide (f≤3)
def parseT (s:List UInt8) (f:Int):MetR:=
 if fmtB f=false then badM 29 0 else if 8192<s.length then badM 12 0 else if f=1 then sdM s else if f=2 then parseD s else grParse s
theorem zaz {f:Int} (h:fmtB f=true):f=1∨f=2∨f=3:=by
 unfold fmtB at h
 simp only [Bool.and_eq_true,decide_eq_true_eq] at h
 omega
theorem zfw (n:Nat) (hn:200000≤n) (s:List UInt8) (hs:s.length≤1000000000) (f:Int):F.zbv n s f=some (parseT s f):=by
 unfold F.zbv parseT
 have hd:decide ((s.length:Int)>8192)=decide (8192<s.length):=decide_eq_decide.2 (by omega)
 rw [hd]
 cases hf:fmtB f
 · have h1:f≠1:=fun e=>by rw [e] at hf; cases hf
   have h2:f≠2:=fun e=>by rw [e] at hf; cases hf
   have h3:f≠3:=fun e=>by rw [e] at hf; cases hf
   rw [beq_eq_false_iff_ne.2 h1,beq_eq_false_iff_ne.2 h2,beq_eq_false_iff_ne.2 h3,if_pos rfl]
   rfl
 · rw [if_neg (by simp)]
   by_cases hl:8192<s.length
   · rw [decide_eq_true hl,if_pos hl]
     rcases zaz hf with rfl | rfl | rfl<;>rfl
   · rw [decide_eq_false hl,if_neg hl]
     rcases zaz hf with rfl | rfl | rfl
     · rw [beq_self_eq_true,cond_true,cond_false,zpg n hn s (by omega),zh4,if_pos rfl]
       rfl
     · rw [show ((2:Int)==1)=false from rfl,cond_false,beq_self_eq_true,cond_true,cond_false,zvu n hn s (by omega),if_neg (by decide),if_pos rfl]
       rfl
     · rw [show ((3:Int)==1)=false from rfl,show ((3:Int)==2)=false from rfl,cond_false,cond_false,beq_self_eq_true,cond_true,cond_false,zpk n hn s (by omega),if_neg (by decide),if_neg (by decide)]
       rfl
theorem zmq (n:Nat) (f:Int):F.zcn n f=some (fmtB f):=by
 unfold F.zcn fmtB
 by_cases h:1≤f
 · rw [zd (by omega),decide_eq_true h]; rfl
 · rw [ze (by omega),decide_eq_false h]; rfl
theorem zh5 (n:Nat) (hn:200000≤n) (s:List UInt8) (hs:s.length≤100000) (f:Int):F.zcf n s f=some (parseT s f):=by
 unfold F.zcf parseT
 have hd:decide ((s.length:Int)>8192)=decide (8192<s.length):=decide_eq_decide.2 (by omega)
 rw [hd,zmq,za]
 cases hf:fmtB f
 · rw [if_pos rfl]; rfl
 · rw [if_neg (by simp),Bool.not_true,cond_false]
   by_cases hl:8192<s.length
   · rw [decide_eq_true hl,if_pos hl]; rfl
   · rw [decide_eq_false hl,if_neg hl,cond_false]
     rcases zaz hf with rfl | rfl | rfl
     · rw [beq_self_eq_true,cond_true,zj7 n hn s (by omega),zh4,if_pos rfl]
       rfl
     · rw [show ((2:Int)==1)=false from rfl,cond_false,beq_self_eq_true,cond_true,znl n hn s hs,if_neg (by decide),if_pos rfl]
       rfl
     · rw [show ((3:Int)==1)=false from rfl,show ((3:Int)==2)=false from rfl,cond_false,cond_false,zvh n hn s (by omega),if_neg (by decide),if_neg (by decide)]
       rfl
theorem zc7 (s:List UInt8) (f:Int):((parseT s f).2.1=(0,0,())∧(parseT s f).1.2.2.1.length≤64∧(parseT s f).1.2.2.2.2.1.length≤32)∨(∃ c a,c≠0∧0≤a∧a≤(s.length:Int)∧parseT s f=badM c a):=by
 unfold parseT
 split
 · exact Or.inr ⟨29,0,by decide,by omega,by omega,rfl⟩
 · split
   · exact Or.inr ⟨12,0,by decide,by omega,by omega,rfl⟩
   · split
     · rcases zl6 s with ⟨c,a,h,h1,h2,h3⟩ | ⟨_,_,_,_,_,_,_,_,_,_,_,_,_,h⟩
       · rw [zh4] at h
         exact Or.inr ⟨c,a,h1,h2,h3,Option.some.inj h⟩
       · rw [zh4] at h
         rw [Option.some.inj h]
         exact Or.inl ⟨rfl,(show (1:Nat)≤64 by omega),(show (0:Nat)≤32 by omega)⟩
     · split
       · rcases zmp s with ⟨h,hI⟩ | ⟨e,a,h1,h2,h3,h⟩
         · exact Or.inl ⟨h,hI.vs.2.2,hI.tg.2.1⟩
         · exact Or.inr ⟨e,a,h1,h2,h3,h⟩
       · rcases zvj s with ⟨c,a,h,h1,h2,h3⟩ | ⟨_,_,_,_,_,_,_,_,_,_,_,h⟩
         · exact Or.inr ⟨c,a,h1,h2,h3,h⟩
         · rw [h]
           exact Or.inl ⟨rfl,(show (1:Nat)≤64 by omega),(show (0:Nat)≤32 by omega)⟩
end Go.AM
set_option linter.unusedVariables false
set_option linter.unusedSimpArgs false
namespace Go.AM
abbrev MetL:=List UInt8×Int×List DecL×Int×List TagL×Int
def toL (m:MetD):MetL:=(m.1,m.2.1,m.2.2.1,m.2.2.2.1,m.2.2.2.2.1,m.2.2.2.2.2.1)
theorem growM {X:Type} {v:List MetL} (h:v.length≤100000) (y:Option X):(bif decide ((v.length+1)*88≤2 ^ 46)&&decide (0<88∧88≤2 ^ 20) then y else none)=y:=by
 rw [decide_eq_true (by omega)]; rfl
def opM (m:MetL):MetD:=(m.1,m.2.1,m.2.2.1,m.2.2.2.1,m.2.2.2.2.1,m.2.2.2.2.2,())
def BatOK (l:List MetL):Prop:=∀ m∈l,MetOK (opM m)
def RightB (l:List MetL):Prop:=l.length≤1000∧∀ m∈l,RightM (opM m)∧StrictT m.2.2.2.2.1
theorem RightB.ok {l:List MetL} (h:RightB l):BatOK l:=fun m hm=>(h.2 m hm).1.ok
end Go.AM
set_option linter.unusedVariables false
set_option linter.unusedSimpArgs false
namespace Go.AM
abbrev DecT:=List MetL×(Int×Int×Unit)×Unit
def decF (f:Int):List (List UInt8)→List MetL→Int→Except (Int×Int) (List MetL)
 | [],out,_ => .ok out
 | [t],out,at_=>if t=[] then .ok out else if out.length=1000 then .error (12,at_) else .error (30,at_)
 | p :: q::r,out,at_=>if out.length=1000 then .error (12,at_) else if (parseT p f).2.1.1≠0 then .error ((parseT p f).2.1.1,at_+(parseT p f).2.1.2.1)
     else decF f (q::r) (out++[toL (parseT p f).1]) (at_+p.length+1)
def outT:Except (Int×Int) (List MetL)→DecT
 | .ok l=>(l,(0,0,()),())
 | .error e=>([],(e.1,e.2,()),())
def decodeT (b:List UInt8) (f:Int):DecT:=if fmtB f=false then ([],(29,0,()),()) else outT (decF f (splitL 10 b) [] 0)
theorem zsj (s:List UInt8) (f:Int):(((parseT s f).2.1.1==0)&&((parseT s f).2.1.2.1==0))=decide ((parseT s f).2.1.1=0):=by
 rcases zc7 s f with ⟨h,_⟩ | ⟨c,a,h1,_,_,h⟩
 · rw [h]; rfl
 · rw [h]
   have e:(badM c a).2.1.1=c:=rfl
   rw [e,decide_eq_false h1,beq_eq_false_iff_ne.2 h1]; rfl
theorem zv0 (s:List UInt8) (f:Int):0≤(parseT s f).2.1.2.1∧(parseT s f).2.1.2.1≤s.length:=by
 rcases zc7 s f with ⟨h,_⟩ | ⟨c,a,h1,h2,h3,h⟩
 · rw [h]; exact ⟨by simp,by simp⟩
 · rw [h]; exact ⟨h2,h3⟩
theorem zpw (n:Nat) {a:List UInt8} (ha:a.length≤1000000000):F.zay n (a++[10]) [10]=some (a,true,()):=by
 unfold F.zay F.za9 F.za8
 have hw:IntKind.wrap .i64 (((a++[(10:UInt8)]).length:Int) - (([(10:UInt8)]:List UInt8).length:Int))=(a.length:Int):=by
  rw [zi (by simp; omega)]; simp
 rw [zd (by simp; omega),hw,zo _ a.length _ (by simp) (by omega),List.take_length,List.drop_left,za,za,beq_self_eq_true,Bool.not_true,cond_false,
  show (0:Int)=((0:Nat):Int) from rfl,zo _ 0 a.length (by omega) (by simp),List.take_left]
 rfl
theorem znm (n:Nat) {a:List UInt8} (ha:a.length≤1000000000) (hne:a≠[]) (h:(10:UInt8)∉a):F.zay n a [10]=some (a,false,()):=by
 unfold F.zay F.za9 F.za8
 have hp:=List.length_pos_iff.2 hne
 have hw:IntKind.wrap .i64 ((a.length:Int) - (([(10:UInt8)]:List UInt8).length:Int))=((a.length - 1:Nat):Int):=by
  rw [zi (by simp; omega)]; simp; omega
 rw [zd (by simp; omega),hw,zo _ (a.length - 1) _ (by omega) (by omega),List.take_length,za]
 have hd:(a.drop (a.length - 1)==[10])=false:=by
  rw [beq_eq_false_iff_ne]
  intro e
  exact h (List.mem_of_mem_drop (by rw [e]; simp))
 rw [hd]
 rfl
abbrev KD:=Int→List MetL→Int→Int→List MetL→Int→List UInt8→Nat→Nat→Option DecT
theorem zv1 (n:Nat) (hn:200000≤n) (f:Int) (k0 kr:KD) (h0:∀ out a r k,k0 f [] 0 0 out a r 0 k=some (out,(0,0,()),())) (hr:∀ c a out a' r k,kr f [] c a out a' r 0 k=some ([],(c,a,()),())) :
 ∀ (m:Nat) (b:List UInt8) (out:List MetL) (a:Int),b.length<m→0≤a→a+b.length≤100000000→out.length≤1000 →
 F.zx.L0_strings_Lines_1 n k0 kr m f [] 0 0 out a b 0 out.length=some (outT (decF f (splitL 10 b) out a)):=by
 intro m
 induction m with
 | zero=>intro b out a h; omega
 | succ m ih =>
  intro b out a hm ha hb ho
  rw [F.zx.L0_strings_Lines_1]
  unfold F.zx.L0_strings_Lines_1.step
  dsimp only
  by_cases hne:b=[]
  · subst hne
    rw [ze (by simp),h0]
    rfl
  have hp:=List.length_pos_iff.2 hne
  have hi:F.zbs n b 10=some (Lib.indexByte b 10):=rfl
  have hk:((out.length:Int)==1000)=decide (out.length=1000):=by
   by_cases h:out.length=1000
   · rw [h]; rfl
   · rw [decide_eq_false h,beq_eq_false_iff_ne]; omega
  have hw0:IntKind.wrap .i64 (a+0)=a:=by rw [Int.add_zero,zi (by omega)]
  rw [zd (by omega),hi,za,zoc,zep]
  by_cases hin:(10:UInt8)∈b
  · have hlt:=zae hin
    have hw1:IntKind.wrap .i64 (((seg 10 b).length:Int)+1)=(((seg 10 b).length+1:Nat):Int):=zh (by omega)
    have hsp:=zbi hin
    have h10:b[(seg 10 b).length]? = some 10:=by
     have:=congrArg (fun l=>l[(seg 10 b).length]?) hsp
     simpa using this
    have hx2:sub b 0 (((seg 10 b).length+1:Nat):Int)=some (seg 10 b++[10]):=by
     rw [show (0:Int)=((0:Nat):Int) from rfl,zo b 0 _ (by omega) (by omega),List.drop_zero,List.take_add_one,zed,h10]
     rfl
    have hrn:restN 10 b=b.drop ((seg 10 b).length+1):=by unfold restN; rw [if_pos hin]
    have hrl:(restN 10 b).length+((seg 10 b).length+1)=b.length:=by rw [hrn,List.length_drop]; omega
    rw [if_pos hin,if_pos hin,zd (by omega),hw1,hx2,za,zo b _ b.length (by omega) (by omega),List.take_length,← hrn,za,zpw n (by omega),za,hk]
    have hsne:=zag 10 (restN 10 b)
    obtain ⟨q,r,hqr⟩:∃ q r,splitL 10 (restN 10 b)=q::r:=by
     cases hq:splitL 10 (restN 10 b) with
     | nil=>exact absurd hq hsne
     | cons q r=>exact ⟨q,r,rfl⟩
    rw [hqr,decF]
    have hwl:IntKind.wrap .i64 (a+(((seg 10 b)++[10]).length:Int))=a+(seg 10 b).length+1:=by
     rw [zi (by simp; omega)]; simp; omega
    by_cases h1000:out.length=1000
    · rw [decide_eq_true h1000,cond_true,if_pos h1000]
      rw [Bool.false_and,Bool.not_false,cond_true,hw0,hr]
      rfl
    · rw [decide_eq_false h1000,cond_false,if_neg h1000]
      have hpa:=zv0 (seg 10 b) f
      dsimp only
      rw [Bool.not_true,cond_false,zfw n hn _ (by omega),za,zsj]
      by_cases hc:(parseT (seg 10 b) f).2.1.1=0
      · rw [decide_eq_true hc,Bool.not_true,cond_false,growM (by omega),Nat.beq_refl,cond_true,hwl,if_neg (fun h=>h hc)]
        have:=ih (restN 10 b) (out++[toL (parseT (seg 10 b) f).1]) (a+(seg 10 b).length+1) (by omega) (by omega) (by omega) (by simp; omega)
        rw [hqr] at this
        exact this
      · rw [decide_eq_false hc,Bool.not_false,cond_true,if_pos hc,zi (x:=a+(parseT (seg 10 b) f).2.1.2.1) (by omega)]
        exact hr _ _ _ _ _ _
  · rw [if_neg hin,if_neg hin,ze (by omega),znm n (by omega) hne hin,za,hk,decF,if_neg hne]
    by_cases h1000:out.length=1000
    · rw [decide_eq_true h1000,cond_true,if_pos h1000]
      rw [Bool.false_and,Bool.not_false,cond_true,hw0,hr]
      rfl
    · rw [decide_eq_false h1000,cond_false,if_neg h1000]
      dsimp only
      rw [Bool.not_false,cond_true,Bool.false_and,Bool.not_false,cond_true,hw0,hr]
      rfl
theorem zpx (n:Nat) (hn:200000≤n) (b:List UInt8) (hb:b.length≤100000000) (hbn:b.length<n) (f:Int):F.zx n b f=some (decodeT b f):=by
 unfold F.zx decodeT
 cases hf:fmtB f
 · have h1:f≠1:=fun e=>by rw [e] at hf; cases hf
   have h2:f≠2:=fun e=>by rw [e] at hf; cases hf
   have h3:f≠3:=fun e=>by rw [e] at hf; cases hf
   rw [beq_eq_false_iff_ne.2 h1,beq_eq_false_iff_ne.2 h2,beq_eq_false_iff_ne.2 h3,if_pos rfl]
   rfl
 · rw [if_neg (by simp)]
   have L:=zv1 n hn f (fun e8_b0_0 e8_b1_0 e8_b2_0 e8_b2_1 e8_b5_0 e8_b6_0 e8_b7_0 e8_k0 e8_k1=>some ((e8_b5_0,((0:Int),(0:Int),()),()))) (fun e9_b0_0 e9_b1_0 e9_b2_0 e9_b2_1 e9_b5_0 e9_b6_0 e9_b7_0 e9_k0 e9_k1=>some ((e9_b1_0,(e9_b2_0,e9_b2_1,()),()))) (fun _ _ _ _=>rfl) (fun _ _ _ _ _ _=>rfl) n b [] 0 (by omega) (by omega) (by omega) (by simp)
   rcases zaz hf with rfl | rfl | rfl
   · exact L
   · exact L
   · exact L
theorem zdj (n:Nat) (hn:200000≤n) (b:List UInt8) (hb:b.length≤20000) (f:Int):F.zx n b f=some (decodeT b f):=zpx n hn b (by omega) (by omega) f
end Go.AM
set_option linter.unusedVariables false
set_option linter.unusedSimpArgs false
namespace Go.AM
theorem awake13 (n:Nat) (hn:200000≤n):F.za4 n=some true:=by
 unfold F.za4
 have q1:decodeT [97,58,49,124,99,10,98,58,50,124,103,10] 1=([([97],1,[(false,1,0)],1000000,[],0),([98],2,[(false,2,0)],1000000,[],0)],(0,0,()),()):=by kernel_rfl
 have q2:decodeT [97,58,49,124,99,10,98,58,120,124,103,10] 1=([],(17,8,()),()):=by kernel_rfl
 have q3:decodeT [97,58,49,124,99] 1=([],(30,0,()),()):=by kernel_rfl
 have q4:decodeT [97,58,49,124,99,10,10] 1=([],(15,6,()),()):=by kernel_rfl
 rw [zdj n hn _ (by simp),zdj n hn _ (by simp),zdj n hn _ (by simp),zdj n hn _ (by simp)]
 show (some (decodeT [97,58,49,124,99,10,98,58,50,124,103,10] 1)).bind _=_
 rw [q1,za]
 show (some (decodeT [97,58,49,124,99,10,98,58,120,124,103,10] 1)).bind _=_
 rw [q2,za]
 show (some (decodeT [97,58,49,124,99] 1)).bind _=_
 rw [q3,za]
 show (some (decodeT [97,58,49,124,99,10,10] 1)).bind _=_
 rw [q4,za]
 rfl
end Go.AM
set_option linter.unusedVariables false
set_option linter.unusedSimpArgs false
namespace Go.AM
def lineF (m:MetD) (f:Int):List UInt8:=if f=1 then lineS m else if f=2 then lineD m else lineG m
def lineT (m:MetD) (f:Int):List UInt8×Int×Unit:=
 if fmtB f=false then ([],29,())
 else if (normM m).2.1≠0 then ([],(normM m).2.1,())
 else if expM (normM m).1 f≠0 then ([],expM (normM m).1 f,())
 else (lineF (normM m).1 f,0,())
theorem zv2 (n:Nat) (hn:200000≤n) {m:MetD} (hR:RightM m) (hs:StrictT m.2.2.2.2.1) {f:Int} (h0:expM m f=0) :
 (f=1→F.zb0 n m=some (lineF m f,0,()))∧(f=2→F.zi n m=some (lineF m f,0,()))∧(f=3→F.zbo n m=some (lineF m f,0,())):=by
 refine ⟨fun e => ?_,fun e => ?_,fun e => ?_⟩
 · subst e; rw [zry n hn m hR.ok]; unfold sdLineR; rw [if_pos h0]; rfl
 · subst e; rw [zps n hn hR hs]; rfl
 · subst e; rw [zvi n hn m hR.ok]; unfold lineGR; rw [if_pos h0]; rfl
theorem znn (n:Nat) (hn:200000≤n) (m:MetD) (hm:MetOK m) (f:Int):F.zck n m f=some (lineT m f):=by
 unfold F.zck lineT
 have hN:F.zn n (m.1,m.2.1,m.2.2.1,m.2.2.2.1,m.2.2.2.2.1,m.2.2.2.2.2.1,())=some (normM m):=zfr n hn m hm
 rw [hN]
 cases hf:fmtB f
 · have h1:f≠1:=fun e=>by rw [e] at hf; cases hf
   have h2:f≠2:=fun e=>by rw [e] at hf; cases hf
   have h3:f≠3:=fun e=>by rw [e] at hf; cases hf
   rw [beq_eq_false_iff_ne.2 h1,beq_eq_false_iff_ne.2 h2,beq_eq_false_iff_ne.2 h3,if_pos rfl]
   rfl
 · rw [if_neg (by simp)]
   rcases zdr hm with ⟨hq,hR⟩ | ⟨e,he,hq⟩
   · have hs:StrictT (formM m).2.2.2.2.1:=zb0 _
     rw [hq]
     generalize formM m=q at hR hs ⊢
     have hE:F.za2 n (q.1,q.2.1,q.2.2.1,q.2.2.2.1,q.2.2.2.2.1,q.2.2.2.2.2.1,()) f=some (expM q f):=zim n hn q hR.ok f
     dsimp only
     simp only [za,beq_self_eq_true,Bool.not_true,cond_false,hE,ne_eq,not_true_eq_false,if_false]
     by_cases h0:expM q f=0
     · obtain ⟨l1,l2,l3⟩:=zv2 n hn hR hs h0
       rw [if_neg (by simp [h0]),h0]
       rcases zaz hf with rfl | rfl | rfl
       · have:=l1 rfl
         rw [beq_self_eq_true,cond_true,beq_self_eq_true,Bool.not_true,cond_false]
         exact (congrArg (Option.bind · _) this).trans rfl
       · have:=l2 rfl
         rw [show ((2:Int)==1)=false from rfl,cond_false,beq_self_eq_true,cond_true,beq_self_eq_true,Bool.not_true,cond_false]
         exact (congrArg (Option.bind · _) this).trans rfl
       · have:=l3 rfl
         rw [show ((3:Int)==1)=false from rfl,show ((3:Int)==2)=false from rfl,cond_false,cond_false,beq_self_eq_true,cond_true,beq_self_eq_true,Bool.not_true,cond_false]
         exact (congrArg (Option.bind · _) this).trans rfl
     · rw [if_pos h0,beq_eq_false_iff_ne.2 h0]
       rcases zaz hf with rfl | rfl | rfl<;>rfl
   · rw [hq]
     dsimp only
     rw [if_pos he]
     simp only [za,beq_eq_false_iff_ne.2 he]
     rcases zaz hf with rfl | rfl | rfl<;>rfl
theorem zit (n:Nat) (hn:200000≤n) {m:MetD} (hR:RightM m) {f:Int} (hf:fmtB f=true) (h0:expM m f=0):F.zca n m f=some (lineF m f):=by
 unfold F.zca lineF
 rcases zaz hf with rfl | rfl | rfl
 · have h:F.zb8 n (m.1,m.2.1,m.2.2.1,m.2.2.2.1,m.2.2.2.2.1,m.2.2.2.2.2.1,())=some (lineS m):=zl3 n hn m hR.ok h0
   rw [beq_self_eq_true,cond_true,h,if_pos rfl]; rfl
 · have h:F.zau n (m.1,m.2.1,m.2.2.1,m.2.2.2.1,m.2.2.2.2.1,m.2.2.2.2.2.1,())=some (lineD m):=zvr n hn m hR
   rw [show ((2:Int)==1)=false from rfl,cond_false,beq_self_eq_true,cond_true,h,if_neg (by decide),if_pos rfl]; rfl
 · have h:F.zb9 n (m.1,m.2.1,m.2.2.1,m.2.2.2.1,m.2.2.2.2.1,m.2.2.2.2.2.1,())=some (lineG m):=znj n hn m hR.ok h0
   rw [show ((3:Int)==1)=false from rfl,show ((3:Int)==2)=false from rfl,cond_false,cond_false,h,if_neg (by decide),if_neg (by decide)]; rfl
theorem zy3 (n:Nat) (hn:200000≤n) (X:Type) (kr:Bool→Option X) (s:List UInt8) (hs:s.length≤9000) (f:Int) (m:MetD) (hm:MetOK m) :
 F.zz.C3 n kr s f m.1 m.2.1 m.2.2.1 m.2.2.2.1 m.2.2.2.2.1 m.2.2.2.2.2.1=kr true:=by
 unfold F.zz.C3
 have hL:F.zck n (m.1,m.2.1,m.2.2.1,m.2.2.2.1,m.2.2.2.2.1,m.2.2.2.2.2.1,()) f=some (lineT m f):=znn n hn m hm f
 have hN:F.zad n (m.1,m.2.1,m.2.2.1,m.2.2.2.1,m.2.2.2.2.1,m.2.2.2.2.2.1,())=some (normM m):=zj9 n hn m hm
 have hp:(parseT s f).1.2.2.1.length≤64∧(parseT s f).1.2.2.2.2.1.length≤32:=by
  rcases zc7 s f with ⟨_,h2,h3⟩ | ⟨c,a,_,_,_,h⟩
  · exact ⟨h2,h3⟩
  · rw [h]; exact ⟨(show (0:Nat)≤64 by omega),(show (0:Nat)≤32 by omega)⟩
 have hq:F.zj n ((parseT s f).1.1,(parseT s f).1.2.1,(parseT s f).1.2.2.1,(parseT s f).1.2.2.2.1,(parseT s f).1.2.2.2.2.1,(parseT s f).1.2.2.2.2.2.1,()) ((parseT s f).1.1,(parseT s f).1.2.1,(parseT s f).1.2.2.1,(parseT s f).1.2.2.2.1,(parseT s f).1.2.2.2.2.1,(parseT s f).1.2.2.2.2.2.1,())=some true:=
  zj8 n hn (parseT s f).1 (by omega) (by omega)
 rw [hL,zfw n hn s (by omega),zh5 n hn s (by omega),zmq,hN]
 simp only [za,hq,beq_self_eq_true,Bool.and_self,Bool.not_true,cond_false,awake13 n hn]
 unfold lineT
 cases hf:fmtB f
 · rfl
 · rw [if_neg (by simp),Bool.not_true,cond_false]
   rcases zdr hm with ⟨hq',hR⟩ | ⟨e,he,hq'⟩
   · rw [hq']
     generalize formM m=q at hR ⊢
     have hE:F.zbu n (q.1,q.2.1,q.2.2.1,q.2.2.2.1,q.2.2.2.2.1,q.2.2.2.2.2.1,()) f=some (expM q f):=zu3 n hn q hR.ok f
     dsimp only
     rw [beq_self_eq_true,cond_true,hE,za,if_neg (by simp)]
     unfold F.zz.C13
     by_cases h0:expM q f=0
     · have h:F.zca n (q.1,q.2.1,q.2.2.1,q.2.2.2.1,q.2.2.2.2.1,q.2.2.2.2.2.1,()) f=some (lineF q f):=zit n hn hR hf h0
       rw [if_neg (by simp [h0]),h0]
       simp only [beq_self_eq_true,Bool.not_true,cond_false,h,za,cond_true,awake13 n hn]
     · rw [if_pos h0,beq_eq_false_iff_ne.2 h0,Bool.not_false,cond_true]
       simp only [beq_self_eq_true,cond_true,awake13 n hn,za]
   · rw [hq']
     dsimp only
     rw [if_pos he,beq_eq_false_iff_ne.2 he,cond_false]
     unfold F.zz.C13
     rw [beq_eq_false_iff_ne.2 he,Bool.not_false,cond_true]
     simp only [beq_self_eq_true,cond_true,awake13 n hn,za]
theorem zpy (n:Nat) (hn:200000≤n) (m:MetD) (hw:MetWf m) (hl:m.2.2.2.2.1.length≤140737488351232) (s:List UInt8) (f:Int):F.zz n m s f=some true:=by
 unfold F.zz
 have hsm:F.zaa n (m.1,m.2.1,m.2.2.1,m.2.2.2.1,m.2.2.2.2.1,m.2.2.2.2.2.1,())=some (smallB m):=zu6 n hn m hl
 rw [hsm,za,awake13 n hn]
 cases h:smallB m
 · rfl
 · have hm:=(zu7 hw h).1
   rw [Bool.not_true,cond_false]
   by_cases h1:9000<s.length
   · rw [decide_eq_true (by omega:(s.length:Int)>1000),decide_eq_false (by omega:¬ (s.length:Int)≤8192),decide_eq_true (by omega:(s.length:Int)>9000)]
     rfl
   · rw [decide_eq_false (by omega:¬ (s.length:Int)>9000),zy3 n hn Bool _ s (by omega) f m hm]
     cases decide ((s.length:Int)>1000)
     · rfl
     · cases decide ((s.length:Int)≤8192)<;>rfl
end Go.AM
namespace Go.Proofs.YtonhplejlfnkoaaGreatDoor.textLines
open Go.ChangeShapes Go.WideShapes Go.ChangeAt Go.RowKit Go.AM
theorem j1:laidOutB Tryz.prog=true:=by kernel_rfl
theorem own:ownKnob Tryz.prog.godebug=none:=by kernel_rfl
theorem goes:LawGoes Tryz.prog SI 5 [(.agg [.str,(.int .i64),(.sl (.agg [.bool,(.int .u64),(.int .i64)])),(.int .i64),(.sl (.agg [.str,.str])),(.int .i64)]),.str,(.int .i64)]:=fun x hx w vals hI hr =>
 ok5 _ ((x.1.1,x.1.2.1,x.1.2.2.1,x.1.2.2.2.1,x.1.2.2.2.2.1,x.1.2.2.2.2.2,()),x.2.1,x.2.2.1,()) true (zpy 200000 (by omega) (x.1.1,x.1.2.1,x.1.2.2.1,x.1.2.2.2.1,x.1.2.2.2.2.1,x.1.2.2.2.2.2,()) hx.1.2.2.1.2 hx.1.2.2.2.2.1.1 x.2.1 x.2.2.1) w (AllD w) vals (WOf.of hI) hr (fun b o h=>h)
noncomputable def laidWorld (os:Os):World:=laidOf Tryz.prog os [layTab 4 Rows.laid_math_bits_deBruijn32tab,layTab 5 Rows.laid_math_bits_deBruijn64tab,layTab 1 Rows.laid_internal_strconv_uint64pow10,layTab 3 Rows.laid_unicode_utf8_acceptRanges,layErr 7 295 297 Rows.laid_strconv_ErrRange,layErr 6 295 297 Rows.laid_strconv_ErrSyntax,layTab 2 Rows.laid_unicode_utf8_first]
theorem zv3 (os:Os) (args:Array Value):laidMet Tryz.prog Rows.textLinesRow.laid ((laidWorld os).forCall (fun _ _=>0) ⟨#[],args,[]⟩).memory:=
 (LaidIn.of_run [4,5,1,3,7,6,2,(World.holding Tryz.prog os ⟨#[],#[],[]⟩).heap.size,(World.holding Tryz.prog os ⟨#[],#[],[]⟩).heap.size+1] 8 (by kernel_rfl) (by kernel_rfl) (by kernel_rfl) (by kernel_rfl)).met
theorem zno (os:Os) {H:Type} (enc:TypeId×Value→H) :
 (OpenSpec.ofChange Rows.textLinesSpec).preRow enc Tryz.prog Tryz.f5 Rows.textLinesRow.domain false Rows.textLinesRow.laid ((laidWorld os).forCall (fun _ _=>0) ⟨#[],#[.agg #[.string .empty,.int .i64 0,.slice none 0 0,.int .i64 0,.slice none 0 0,.int .i64 0],.string .empty,.int .i64 0],[]⟩).memory #[.agg #[.string .empty,.int .i64 0,.slice none 0 0,.int .i64 0,.slice none 0 0,.int .i64 0],.string .empty,.int .i64 0]:=by
 have hw:(DataW.whole enc Tryz.prog ((laidWorld os).forCall (fun _ _=>0) ⟨#[],#[.agg #[.string .empty,.int .i64 0,.slice none 0 0,.int .i64 0,.slice none 0 0,.int .i64 0],.string .empty,.int .i64 0],[]⟩).memory Tryz.f5.params.toList Rows.textLinesSpec.vars false (#[.agg #[.string .empty,.int .i64 0,.slice none 0 0,.int .i64 0,.slice none 0 0,.int .i64 0],.string .empty,.int .i64 0]:Array Value).toList 8).map (fun x=>(x.1,x.2.1)) =
  some ([.agg [.lit (.string []),.lit (.int .i64 0),.nil,.lit (.int .i64 0),.nil,.lit (.int .i64 0)],.lit (.string []),.lit (.int .i64 0)],[]):=by kernel_rfl
 obtain ⟨⟨x1,x2,x3⟩,hx,hx1⟩:=Option.map_eq_some_iff.1 hw
 simp only [Prod.mk.injEq] at hx1
 obtain ⟨rfl,rfl⟩:=hx1
 exact OpenSpec.preRow_of_cond 8 hx (by kernel_rfl) (fun k hk=>by cases hk) (by kernel_rfl) (zv3 os _)
set_option maxRecDepth 100000 in
theorem lifted (os:Os) (started:os.Started) (H:Type) (enc:TypeId×Value→H) (F:Stop.Interp) :
 ReturnsInHanded {} Tryz.checked os 5 .any ((OpenSpec.ofChange Rows.textLinesSpec).preRow enc Tryz.prog Tryz.f5 Rows.textLinesRow.domain false Rows.textLinesRow.laid) (((OpenSpec.ofChange Rows.textLinesSpec).at F).post enc Tryz.prog Tryz.f5 false true false false):=by
 refine returnsInHanded_of_row (C:=Tryz.checked) (s:=OpenSpec.ofChange Rows.textLinesSpec) own started (by kernel_rfl) Tryz.func5
  (witness_row_atRef (enc:=enc) (C:=Tryz.checked) false (laidWorld os) #[.agg #[.string .empty,.int .i64 0,.slice none 0 0,.int .i64 0,.slice none 0 0,.int .i64 0],.string .empty,.int .i64 0] rfl (by kernel_rfl) (by kernel_rfl) (by kernel_rfl) (zno os enc)) ?_
 intro W base args ds gs before hval hW _ _ hw hL hO _
 exact zqw (s:=Rows.textLinesSpec) (n:=8) j1 Tryz.func5 (by kernel_rfl) (by decide) (by kernel_rfl) rfl Tryz.underlying4 rfl (fun ds h=>by match ds,h with | [_,_,_],_=>rfl) goes hval hW hw ⟨hL,hO⟩
theorem j2:mapsRowed Tryz.prog=true:=by kernel_rfl
theorem j3:(Rows.textLinesRow.inPlace==Tryz.prog.inPlace 5)=true:=by kernel_rfl
theorem j4:(Rows.textLinesRow.unfollowed==Tryz.prog.unfollowed 5)=true:=by kernel_rfl
theorem j5:(Rows.textLinesRow.recurses==Tryz.prog.recurses 5)=true:=by kernel_rfl
theorem j6:(Rows.textLinesRow.named==Tryz.prog.varsNamed 5)=true:=by kernel_rfl
theorem joined:joinedFacts Tryz.prog 5 Tryz.f5 (OpenSpec.ofChange Rows.textLinesSpec).bare Rows.textLinesRow=true:=by
 simp only [joinedFacts,Bool.and_eq_true]
 repeat' apply And.intro
 · kernel_rfl
 · exact j1
 · exact j2
 · kernel_rfl
 · kernel_rfl
 · kernel_rfl
 · kernel_rfl
 · kernel_rfl
 · kernel_rfl
 · exact j3
 · exact j4
 · exact j5
 · exact j6
 all_goals kernel_rfl
theorem said:Rows.TextLinesSaid:=
 OpenClaim.holds_of_cond 5 Tryz.f5 rfl rfl rfl rfl rfl rfl rfl ⟨rfl,rfl,rfl,rfl,rfl⟩ rfl rfl rfl rfl rfl (by kernel_rfl) Tryz.func5 joined
  (of_decide_eq_true (by kernel_rfl)) (by unfold Func.isWrapper; first | (rw [if_pos (by decide +kernel)]; kernel_rfl) | (rw [if_neg (by decide +kernel)]; exact ⟨rfl,rfl⟩))
  (fun os started H enc _ F=>by rw [OpenClaim.pre_eq_preRow]; exact lifted os started H enc F)
theorem plain (f : FuncId) (fn : Func) (hf : Tryz.pinned.checked.prog.funcNamed "forebay/forebaylaw13.TextLines" = some f) (hfn : Tryz.pinned.checked.prog.funcs[f]? = some fn) :
 true=Tryz.pinned.checked.prog.looks []∧∀ (j:Nat) t,fn.params[j]? = some t→Tryz.pinned.checked.prog.wantsStandIn t=false:=by
 obtain rfl : f = 5 := Option.some.inj ((show Tryz.prog.funcNamed "forebay/forebaylaw13.TextLines" = some 5 by kernel_rfl).symm.trans hf) |>.symm
 obtain rfl:fn=Tryz.f5:=(Option.some.inj (Tryz.func5.symm.trans hfn)).symm
 refine ⟨by kernel_rfl,fun j t ht => ?_⟩
 have hm:t∈([36,9,3]:List TypeId):=by
  rw [Tryz.params5] at ht
  have:=Array.mem_of_getElem? ht
  simpa using this
 have all:∀ x∈([36,9,3]:List TypeId),Tryz.prog.wantsStandIn x=false:=fun x hx=>by
  have h:([36,9,3]:List TypeId).all (fun x=>Tryz.prog.wantsStandIn x==false)=true:=by kernel_rfl
  simpa using List.all_eq_true.1 h x hx
 exact all t hm
theorem proved:Rows.TextLinesCardSaid:=
 Claim7.holds_tied_plain_at .later [] _ _ _ _ said (fun _ h=>by cases h) (by kernel_rfl) (fun _ h=>by cases h) textLines_row_tie rfl ⟨rfl,rfl⟩ (by kernel_rfl) rfl plain (by kernel_rfl)
end Go.Proofs.YtonhplejlfnkoaaGreatDoor.textLines
