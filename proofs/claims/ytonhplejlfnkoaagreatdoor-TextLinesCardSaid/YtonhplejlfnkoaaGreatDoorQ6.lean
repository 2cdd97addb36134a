/- Part 6 of a proof by the abstract machine. -/
import Derived.Test.YtonhplejlfnkoaaGreatDoorQ5
set_option linter.unusedVariables false
set_option linter.unusedSimpArgs false
namespace Go.AM
theorem zrm (x:UInt8):cls 1 x=wordI (x.toNat:Int):=rfl
theorem zrn {X:Type} (n:Nat) (rec:List UInt8→Int→Option X) (k0:List UInt8→Option X) (kr:Bool→Option X) (s:List UInt8) (k:Nat) (hk:k<s.length) (hs:s.length≤10000) (x:UInt8) (hx:s[k]? = some x) :
 F.zae.L2.step n rec k0 kr s (k:Int)=if cls 1 x=true then rec s ((k+1:Nat):Int) else kr false:=by
 unfold F.zae.L2.step
 rw [zd (by omega),zm,hx,zh (by omega),za,zrm]
 unfold wordI btw
 generalize hv:((x.toNat:Nat):Int)=v
 generalize rec s ((k+1:Nat):Int)=A
 generalize kr false=B
 simp only [Bool.cond_eq_ite,Bool.not_eq_true',Bool.or_eq_true,Bool.and_eq_true,decide_eq_true_eq,beq_iff_eq,beq_eq_false_iff_ne,ne_eq]
 repeat' split
 all_goals first
  | rfl
  | (exfalso; omega)
theorem zj5 (n:Nat) (X:Type) (k0:List UInt8→Option X) (kr:Bool→Option X) (s:List UInt8) (hs:s.length≤10000):∀ (r:List UInt8) (k m:Nat),s.drop k=r→r.length<m →
 F.zae.L2 n k0 kr m s (k:Int)=if r.all (cls 1)=true then k0 s else kr false:=by
 intro r
 induction r with
 | nil =>
  intro k m hk hm
  have:=zl hk
  cases m with
  | zero=>simp at hm
  | succ m =>
   show F.zae.L2.step n (F.zae.L2 n k0 kr m) k0 kr s (k:Int)=_
   unfold F.zae.L2.step
   rw [ze (by omega)]
   rfl
 | cons x r ih =>
  intro k m hk hm
  obtain ⟨h1,h2,h3⟩:=zk hk
  cases m with
  | zero=>simp at hm
  | succ m =>
   show F.zae.L2.step n (F.zae.L2 n k0 kr m) k0 kr s (k:Int)=_
   rw [zrn n _ _ _ s k h1 hs x h2,List.all_cons]
   cases hx:cls 1 x
   · rfl
   · rw [if_pos rfl,ih (k+1) m h3 (by simp at hm; omega)]
     rfl
theorem zfl (s:List UInt8):nameOK s=(s.all (cls 1)&&(decide (1≤s.length)&&decide (s.length≤200))):=by
 unfold nameOK textF
 rw [if_neg (by simp [may])]
 by_cases h1:(s.length:Int)<1
 · rw [if_pos h1]
   have:decide (1≤s.length)=false:=decide_eq_false (by omega)
   rw [this]; simp
 rw [if_neg h1]
 have e1:decide (1≤s.length)=true:=decide_eq_true (by omega)
 by_cases h2:(s.length:Int)>200
 · rw [if_pos h2]
   have:decide (s.length≤200)=false:=decide_eq_false (by omega)
   rw [this]; simp
 rw [if_neg h2]
 have e2:decide (s.length≤200)=true:=decide_eq_true (by omega)
 rw [e1,e2]
 by_cases h3:0≤badK (cls 1) 0 s
 · rw [if_pos h3]
   have:s.all (cls 1)=false:=by
    have:=(zcx (cls 1) 0 s).1 h3
    simpa using this
   rw [this]; rfl
 · rw [if_neg h3]
   have:s.all (cls 1)=true:=Classical.byContradiction fun hh=>h3 ((zcx _ _ _).2 hh)
   rw [this]; rfl
theorem zlv (n:Nat) (hn:200000≤n) (s:List UInt8) (hs:s.length≤10000):F.zae n s=some (nameOK s):=by
 unfold F.zae
 have L:=zj5 n Bool (fun e2_0=>bif decide ((e2_0.length:Int)≥(1:Int)) then some (decide ((e2_0.length:Int)≤(200:Int))) else some (false)) (fun e3_2=>some (e3_2)) s hs s 0 n rfl (by omega)
 refine L.trans ?_
 rw [zfl]
 cases h:s.all (cls 1)
 · rfl
 · rw [if_pos rfl]
   by_cases h1:1≤s.length
   · rw [zd (by omega),decide_eq_true h1]
     have e2:decide ((s.length:Int)≤200)=decide (s.length≤200):=by apply decide_eq_decide.2; omega
     rw [e2]; rfl
   · rw [ze (by omega),decide_eq_false h1]; rfl
theorem zro (n:Nat) (hn:200000≤n) (X:Type) (k0:List UInt8→Int→List DecL→Int→List TagL→Int→Option X) (kr:Int→List UInt8→Int→List DecL→Int→List TagL→Int→Option X) (vs:List TagL) (hs:vs.length≤10000) (hok:∀ d∈vs,TagLOK d) (b0:List UInt8) (b1:Int) (b2:List DecL) (b3:Int) (b5:Int):∀ (r:List TagL) (k m:Nat),vs.drop k=r→r.length<m →
 F.z6.L12 n k0 kr m (k:Int) b0 b1 b2 b3 vs b5=bif r.all tagGood then k0 b0 b1 b2 b3 vs b5 else kr 19 b0 b1 b2 b3 vs b5:=by
 intro r
 induction r with
 | nil =>
  intro k m hk hm
  have:=zl hk
  cases m with
  | zero=>simp at hm
  | succ m =>
   show F.z6.L12.step n (F.z6.L12 n k0 kr m) k0 kr _ _ _ _ _ _ _=_
   unfold F.z6.L12.step
   rw [ze (by omega)]
   rfl
 | cons x r ih =>
  intro k m hk hm
  obtain ⟨h1,h2,h3⟩:=zk hk
  have hx:TagLOK x:=hok x (List.mem_of_getElem? h2)
  cases m with
  | zero=>simp at hm
  | succ m =>
   show F.z6.L12.step n (F.z6.L12 n k0 kr m) k0 kr _ _ _ _ _ _ _=_
   unfold F.z6.L12.step
   rw [zd (by omega),zm,h2]
   simp only [za,zyq n hn hx,List.all_cons]
   cases h:tagGood x
   · rfl
   · rw [zh (by omega),ih (k+1) m h3 (by simp at hm; omega)]; rfl
def restM (m:MetD) (vals:Bool):Int:=
 bif !nameOK m.1 then 15 else bif !kindB m.2.1 then 16 else bif !(vals&&(decide (1≤m.2.2.1.length)&&decide (m.2.2.1.length≤64))) then 17 else bif !rateB m.2.1 m.2.2.2.1 then 18 else bif !tagsB m.2.2.2.2.1 then 19 else bif !timeB m.2.2.2.2.2.1 then 20 else 0
theorem zlw (m:MetD):chkM m=restM m (m.2.2.1.all fun d=>decC d==0):=by
 unfold chkM restM valsB
 cases decide (1≤m.2.2.1.length)<;>cases decide (m.2.2.1.length≤64)<;>cases (m.2.2.1.all fun d=>decC d==0)<;>rfl
theorem zlx (n:Nat) (hn:200000≤n) (m:MetD) (h1:m.1.length≤10000) (h2:m.2.2.2.2.1.length≤10000) (h3:∀ t∈m.2.2.2.2.1,TagLOK t) (vals:Bool):F.z6 n m vals=some (restM m vals):=by
 obtain ⟨nm,k,vs,r,ts,t,_⟩:=m
 simp only at h1 h2 h3
 unfold F.z6 restM
 simp only [zlv n hn nm h1,za]
 cases nameOK nm
 · rfl
 simp only [Bool.not_true,cond_false]
 unfold kindB
 by_cases k1:k<1
 · rw [zd k1,decide_eq_false (by omega:¬ 1≤k)]; rfl
 rw [ze k1,decide_eq_true (by omega:1≤k)]
 by_cases k2:k>5
 · rw [zd k2,decide_eq_false (by omega:¬ k≤5)]; rfl
 rw [ze k2,decide_eq_true (by omega:k≤5)]
 simp only [Bool.and_self,Bool.not_true,cond_false]
 cases vals
 · rfl
 simp only [Bool.not_true,cond_false,Bool.true_and]
 by_cases v1:(vs.length:Int)<1
 · rw [zd v1,decide_eq_false (by omega:¬ 1≤vs.length)]; rfl
 rw [ze v1,decide_eq_true (by omega:1≤vs.length)]
 by_cases v2:(vs.length:Int)>64
 · rw [zd v2,decide_eq_false (by omega:¬ vs.length≤64)]; rfl
 rw [ze v2,decide_eq_true (by omega:vs.length≤64)]
 simp only [Bool.and_self,Bool.not_true,cond_false]
 unfold rateB
 by_cases r1:r<1
 · rw [zd r1,decide_eq_false (by omega:¬ 1≤r)]; rfl
 rw [ze r1,decide_eq_true (by omega:1≤r)]
 by_cases r2:r>1000000
 · rw [zd r2,decide_eq_false (by omega:¬ r≤1000000)]; rfl
 rw [ze r2,decide_eq_true (by omega:r≤1000000)]
 simp only [Bool.true_and]
 have tail : (bif decide ((ts.length:Int)>(32:Int)) then some (19:Int) else
  F.z6.L12 n
   (fun e4_b0_0 e4_b0_1 e4_b0_2 e4_b0_3 e4_b0_4 e4_b0_5 =>
    bif decide (e4_b0_5<(0:Int)) then some ((20:Int)) else bif decide (e4_b0_5>(1099511627776:Int)) then some ((20:Int)) else some ((0:Int)))
   (fun e5_4 e5_b0_0 e5_b0_1 e5_b0_2 e5_b0_3 e5_b0_4 e5_b0_5=>some (e5_4)) n (0:Int) nm k vs r ts t)=some (bif !tagsB ts then 19 else bif !timeB t then 20 else 0):=by
  unfold tagsB timeB
  by_cases t1:(ts.length:Int)>32
  · rw [zd t1,decide_eq_false (by omega:¬ ts.length≤32)]; rfl
  rw [ze t1,decide_eq_true (by omega:ts.length≤32)]
  refine (zro n hn Int _ _ ts h2 h3 nm k vs r t ts 0 n rfl (by omega)).trans ?_
  cases ts.all tagGood
  · rfl
  · rw [cond_true]
    by_cases u1:t<0
    · rw [zd u1,decide_eq_false (by omega:¬ 0≤t)]; rfl
    rw [ze u1,decide_eq_true (by omega:0≤t)]
    by_cases u2:t>1099511627776
    · rw [zd u2,decide_eq_false (by omega:¬ t≤1099511627776)]; rfl
    rw [ze u2,decide_eq_true (by omega:t≤1099511627776)]
    rfl
 cases hk:(k==2)
 · exact tail
 · cases hr:(r==1000000)
   · rfl
   · exact tail
end Go.AM
set_option linter.unusedVariables false
set_option linter.unusedSimpArgs false
namespace Go.AM
theorem zrp (n:Nat) (hn:200000≤n) (neg:Bool) (c:Nat) (hc:c<two64) (e:Int):F.zb1 n (neg,(c:Int),e,())=some (checkR neg c e):=by
 unfold F.zb1 checkR
 have hl:=za3 hc
 simp only [digits03 n (by omega) c hc,zik n hn neg _ (zax c) (by omega) e,za]
 have T:=zhx neg c e _ rfl
 have T':(bif !((valR neg (Lib.decDigits c) e).2.1==0) then some (21:Int) else bif !(((valR neg (Lib.decDigits c) e).1.1==neg)&&(((valR neg (Lib.decDigits c) e).1.2.1==(c:Int))&&((valR neg (Lib.decDigits c) e).1.2.2.1==e))) then some ((21:Int)) else some ((0:Int)))=_:=T
 by_cases h0:c=0
 · have e0:(((c:Int))==0)=true:=by simp [h0]
   rw [e0,if_neg (fun h=>h.1 h0)]
   exact T'
 · have e0:(((c:Int))==0)=false:=by simpa using h0
   rw [e0]
   simp only [Bool.not_false,cond_true]
   by_cases h1:e < -18
   · rw [zd h1,if_pos ⟨h0,Or.inl h1⟩]
   · rw [ze h1]
     by_cases h2:e>18
     · rw [zd h2,if_pos ⟨h0,Or.inr h2⟩]
     · rw [ze h2,if_neg (by omega)]
       exact T'
end Go.AM
set_option linter.unusedVariables false
set_option linter.unusedSimpArgs false
namespace Go.AM
theorem zu1 (n:Nat) (hn:200000≤n) {d:DecL} (h:DecLOK d):F.zb1 n (d.1,d.2.1,d.2.2,())=some (decC d):=by
 obtain ⟨neg,c,e,rfl,hc,he⟩:=za5 h
 exact zrp n hn neg c hc e
theorem zpb (n:Nat) (hn:200000≤n) (X:Type) (k0:Bool→List UInt8→Int→List DecL→Int→List TagL→Int→Option X) (vs:List DecL) (hs:vs.length≤10000) (hok:∀ d∈vs,DecLOK d) (b0:List UInt8) (b1:Int) (b3:Int) (b4:List TagL) (b5:Int):∀ (r:List DecL) (k m:Nat) (v:Bool),vs.drop k=r→r.length<m →
 F.zab.L3 n k0 m v (k:Int) b0 b1 vs b3 b4 b5=k0 (v&&r.all fun d=>decC d==0) b0 b1 vs b3 b4 b5:=by
 intro r
 induction r with
 | nil =>
  intro k m v hk hm
  have:=zl hk
  cases m with
  | zero=>simp at hm
  | succ m =>
   show F.zab.L3.step n (F.zab.L3 n k0 m) k0 v _ _ _ _ _ _ _=_
   unfold F.zab.L3.step
   rw [ze (by omega)]
   cases v<;>rfl
 | cons x r ih =>
  intro k m v hk hm
  obtain ⟨h1,h2,h3⟩:=zk hk
  have hx:DecLOK x:=hok x (List.mem_of_getElem? h2)
  cases m with
  | zero=>simp at hm
  | succ m =>
   show F.zab.L3.step n (F.zab.L3 n k0 m) k0 v _ _ _ _ _ _ _=_
   unfold F.zab.L3.step
   rw [zd (by omega),zh (by omega)]
   cases v
   · rw [cond_false,ih (k+1) m _ h3 (by simp at hm; omega)]; rfl
   · rw [cond_true,zm,h2]
     simp only [za,zu1 n hn hx,List.all_cons,Bool.true_and]
     rw [ih (k+1) m _ h3 (by simp at hm; omega)]
theorem zly (n:Nat) (hn:200000≤n) (m:MetD) (hm:MetOK m):F.zab n m=some (chkM m):=by
 have hr:=zlx n hn m hm.1 hm.2.2.1 hm.2.2.2 (m.2.2.1.all fun d=>decC d==0)
 have h2:=hm.2.1
 rw [zlw]
 obtain ⟨nm,k,vs,r,ts,t,_⟩:=m
 simp only at hr h2 ⊢
 unfold F.zab
 refine (zpb n hn Int _ vs h2.1 h2.2 nm k r ts t vs 0 n true rfl (by have:=h2.1; omega)).trans ?_
 rw [Bool.true_and,hr]
 rfl
def bareM (m:MetD):Bool:=decide (m.2.2.1.length=1)&&decide (m.2.2.2.2.1.length=0)
def negM (m:MetD):Bool:=match m.2.2.1 with | []=>false | d::_=>d.1
def saysS (m:MetD):Bool:=bareM m&&((m.2.2.2.2.2.1==0)&&(!(m.2.1==5)&&(!(m.2.1==2) || !negM m)))
def saysG (m:MetD):Bool:=bareM m&&(!(m.2.2.2.2.2.1==0)&&(m.2.1==2))
def saysM (m:MetD) (f:Int):Bool:=if f=1 then saysS m else if f=3 then saysG m else true
def expM (m:MetD) (f:Int):Int:=if f<1∨f>4 then 29 else if chkM m=0 then (bif saysM m f then 0 else 26) else chkM m
theorem zod (l:List DecL) (k:Nat):(((l.length:Nat):Int)==((k:Nat):Int))=decide (l.length=k):=by
 by_cases h:l.length=k
 · rw [h]; simp
 · rw [decide_eq_false h,beq_eq_false_iff_ne]; omega
theorem zlz (l:List TagL) (k:Nat):(((l.length:Nat):Int)==((k:Nat):Int))=decide (l.length=k):=by
 by_cases h:l.length=k
 · rw [h]; simp
 · rw [decide_eq_false h,beq_eq_false_iff_ne]; omega
theorem zoe (n:Nat) (m:MetD):F.zbb n m=some (bareM m):=by
 have h1:=zod m.2.2.1 1
 have h2:=zlz m.2.2.2.2.1 0
 unfold F.zbb bareM
 rw [show (1:Int)=((1:Nat):Int) from rfl,show (0:Int)=((0:Nat):Int) from rfl,h1,h2]
 cases decide (m.2.2.1.length=1)<;>rfl
theorem zof {m:MetD} (h:bareM m=true):∃ d,idx m.2.2.1 (0:Int)=some d∧negM m=d.1:=by
 unfold bareM at h
 obtain ⟨nm,k,vs,r,ts,t,_⟩:=m
 match vs,h with
 | [d],_=>exact ⟨d,rfl,rfl⟩
theorem zzf (n:Nat) (m:MetD):F.zbi n m=some (saysS m):=by
 unfold F.zbi saysS
 have hb:F.zbb n (m.1,m.2.1,m.2.2.1,m.2.2.2.1,m.2.2.2.2.1,m.2.2.2.2.2.1,())=some (bareM m):=zoe n m
 rw [hb,za]
 cases h:bareM m
 · rfl
 simp only [Bool.not_true,cond_false,Bool.true_and]
 obtain ⟨d,hd,hg⟩:=zof h
 rw [hd,hg]
 cases (m.2.2.2.2.2.1==0)<;>cases (m.2.1==5)<;>cases (m.2.1==2)<;>rfl
theorem zzg (n:Nat) (m:MetD):F.zbc n m=some (saysG m):=by
 unfold F.zbc saysG
 have hb:F.zbb n (m.1,m.2.1,m.2.2.1,m.2.2.2.1,m.2.2.2.2.1,m.2.2.2.2.2.1,())=some (bareM m):=zoe n m
 rw [hb,za]
 cases bareM m<;>cases (m.2.2.2.2.2.1==0)<;>rfl
theorem zu2 (n:Nat) (m:MetD) (f:Int):F.zb7 n m f=some (saysM m f):=by
 unfold F.zb7 saysM saysS saysG
 have h1:=zod m.2.2.1 1
 have h2:=zlz m.2.2.2.2.1 0
 have e1:((m.2.2.1.length:Int)==(1:Int))=decide (m.2.2.1.length=1):=h1
 have e2:((m.2.2.2.2.1.length:Int)==(0:Int))=decide (m.2.2.2.2.1.length=0):=h2
 rw [e1,e2]
 by_cases f1:f=1
 · subst f1
   simp only [beq_self_eq_true,cond_true,if_true]
   cases hb:bareM m
   · unfold bareM at hb
     cases g1:decide (m.2.2.1.length=1)
     · rfl
     · rw [g1,Bool.true_and] at hb
       rw [hb]; rfl
   · obtain ⟨d,hd,hg⟩:=zof hb
     unfold bareM at hb
     rw [Bool.and_eq_true] at hb
     rw [hb.1,hb.2,hd,hg]
     cases (m.2.2.2.2.2.1==0)<;>cases (m.2.1==5)<;>cases (m.2.1==2)<;>rfl
 · rw [beq_eq_false_iff_ne.2 f1,if_neg f1]
   by_cases f3:f=3
   · subst f3
     simp only [beq_self_eq_true,cond_true,cond_false,if_true]
     unfold bareM
     cases decide (m.2.2.1.length=1)<;>cases decide (m.2.2.2.2.1.length=0)<;>cases (m.2.2.2.2.2.1==0)<;>rfl
   · rw [beq_eq_false_iff_ne.2 f3,if_neg f3]
     cases decide (m.2.2.1.length=1)<;>rfl
theorem zim (n:Nat) (hn:200000≤n) (m:MetD) (hm:MetOK m) (f:Int):F.za2 n m f=some (expM m f):=by
 have hc:F.zv n (m.1,m.2.1,m.2.2.1,m.2.2.2.1,m.2.2.2.2.1,m.2.2.2.2.2.1,())=some (chkM m):=zgm n hn m hm
 have hs:F.zbi n (m.1,m.2.1,m.2.2.1,m.2.2.2.1,m.2.2.2.2.1,m.2.2.2.2.2.1,())=some (saysS m):=zzf n m
 have hg:F.zbc n (m.1,m.2.1,m.2.2.1,m.2.2.2.1,m.2.2.2.2.1,m.2.2.2.2.2.1,())=some (saysG m):=zzg n m
 unfold F.za2 expM
 rw [hc,hs,hg]
 simp only [za]
 by_cases h:f<1∨f>4
 · rw [if_pos h,beq_eq_false_iff_ne.2 (by omega:f≠1),beq_eq_false_iff_ne.2 (by omega:f≠2),beq_eq_false_iff_ne.2 (by omega:f≠3),beq_eq_false_iff_ne.2 (by omega:f≠4)]
   rfl
 rw [if_neg h]
 by_cases h0:chkM m=0
 · rw [if_pos h0,h0]
   rcases (by omega:f=1∨f=2∨f=3∨f=4) with rfl | rfl | rfl | rfl
   · show (bif !saysS m then some 26 else some 0)=some (bif saysS m then 0 else 26)
     cases saysS m<;>rfl
   · rfl
   · show (bif !saysG m then some 26 else some 0)=some (bif saysG m then 0 else 26)
     cases saysG m<;>rfl
   · rfl
 · rw [if_neg h0,beq_eq_false_iff_ne.2 h0]
   rcases (by omega:f=1∨f=2∨f=3∨f=4) with rfl | rfl | rfl | rfl<;>rfl
theorem zu3 (n:Nat) (hn:200000≤n) (m:MetD) (hm:MetOK m) (f:Int):F.zbu n m f=some (expM m f):=by
 unfold F.zbu expM
 by_cases h1:f<1
 · rw [zd h1,if_pos (Or.inl h1)]
 rw [ze h1]
 by_cases h2:f>4
 · rw [zd h2,if_pos (Or.inr h2)]
 rw [ze h2,if_neg (by omega)]
 have hc:F.zab n (m.1,m.2.1,m.2.2.1,m.2.2.2.1,m.2.2.2.2.1,m.2.2.2.2.2.1,())=some (chkM m):=zly n hn m hm
 have hs:F.zb7 n (m.1,m.2.1,m.2.2.1,m.2.2.2.1,m.2.2.2.2.1,m.2.2.2.2.2.1,()) f=some (saysM m f):=zu2 n m f
 rw [hc,za]
 by_cases h0:chkM m=0
 · rw [h0,if_pos rfl,hs]
   cases saysM m f<;>rfl
 · rw [beq_eq_false_iff_ne.2 h0,if_neg h0]; rfl
end Go.AM
set_option linter.unusedVariables false
set_option linter.unusedSimpArgs false
namespace Go.AM
theorem zpc (n:Nat) (X:Type) (k0:(List UInt8)→Bool→Int→Int→Option X) (neg:Bool) (c e:Int):∀ (j i m:Nat) (v:List UInt8),((i:Int)+j=e∨j=0∧e≤i)→j<m→i+j≤1000→v.length+j≤100000→F.zl.L3 n k0 m v (i:Int) neg c e=k0 (v++List.replicate j 48) neg c e:=by
 intro j
 induction j with
 | zero =>
  intro i m v h hm hi hv
  obtain ⟨m,rfl⟩:∃ q,m=q+1:=⟨m - 1,by omega⟩
  show F.zl.L3.step n _ k0 _ _ _ _ _=_
  unfold F.zl.L3.step
  rw [ze (by omega),List.replicate_zero,List.append_nil]
 | succ j ih =>
  intro i m v h hm hi hv
  obtain ⟨m,rfl⟩:∃ q,m=q+1:=⟨m - 1,by omega⟩
  show F.zl.L3.step n (F.zl.L3 n k0 m) k0 _ _ _ _ _=_
  unfold F.zl.L3.step
  rw [zd (by omega),zd (by rw [zj]; omega),zh (by omega),ih (i+1) m _ (by omega) (by omega) (by omega) (by simp; omega),List.append_assoc,List.replicate_succ]
  rfl
theorem zu4 (n:Nat) (X:Type) (k2:(List UInt8)→Bool→Int→Int→Option X) (neg:Bool) (c e:Int) (he : -100≤e∧e<0):∀ (j m:Nat) (v:List UInt8),((v.length:Int)+j=1 - e∨j=0∧1 - e≤v.length)→j<m→v.length+j≤100000→F.zl.L7 n k2 m v neg c e=k2 (List.replicate j 48++v) neg c e:=by
 intro j
 induction j with
 | zero =>
  intro m v h hm hv
  obtain ⟨m,rfl⟩:∃ q,m=q+1:=⟨m - 1,by omega⟩
  show F.zl.L7.step n _ k2 _ _ _ _=_
  unfold F.zl.L7.step
  rw [zi (by omega),ze (by omega)]
  rfl
 | succ j ih =>
  intro m v h hm hv
  obtain ⟨m,rfl⟩:∃ q,m=q+1:=⟨m - 1,by omega⟩
  show F.zl.L7.step n (F.zl.L7 n k2 m) k2 _ _ _ _=_
  unfold F.zl.L7.step
  rw [zi (by omega),zd (by omega),zd (by rw [zj]; omega),ih m _ (by simp; omega) (by omega) (by simp; omega),List.replicate_succ',List.append_assoc]
theorem zu5 (n : Nat) (hn : 200000≤n) (neg:Bool) (c:Nat) (hc:c<two64) (e:Int) (he : -18≤e∧e≤18):F.zl n (neg,(c:Int),e,())=some (textD neg c e):=by
 unfold F.zl
 have hl:=za3 hc
 simp only [digits03 n (by omega) c hc,za]
 have hz := zpc n (List UInt8) (fun e2_3 e2_b0_0 e2_b0_1 e2_b0_2 =>
  bif decide (e2_b0_2<(0:Int)) then
   F.zl.L7 n
    (fun e3_3 e3_b0_0 e3_b0_1 e3_b0_2 =>
     (sub e3_3 (0:Int) (IntKind.wrap .i64 ((e3_3.length:Int)+e3_b0_2))).bind fun x4 =>
      bif decide (x4.length+1≤strMax) then
       (sub e3_3 (IntKind.wrap .i64 ((e3_3.length:Int)+e3_b0_2)) (e3_3.length:Int)).bind fun x5 =>
        bif decide (((x4++([46])).length)+x5.length≤strMax) then
         bif e3_b0_0 then
          bif decide (1+(((x4++([46]))++x5).length)≤strMax) then
           some (([45])++((x4++([46]))++x5))
          else
           none
         else
          some ((x4++([46]))++x5)
        else
         none
      else
       none) n e2_3 e2_b0_0 e2_b0_1 e2_b0_2
  else
  bif e2_b0_0 then
   bif decide (1+e2_3.length≤strMax) then
    some (([45])++e2_3)
   else
    none
  else
   some (e2_3)) neg (c:Int) e e.toNat 0 n (Lib.decDigits c) (by omega) (by omega) (by omega) (by omega)
 refine hz.trans ?_
 unfold textD
 by_cases hE:0≤e
 · rw [ze (by omega),if_pos hE]
   cases neg
   · rfl
   · rw [cond_true,zd (by rw [zj]; simp; omega)]
     rfl
 · obtain ⟨w1,w2,w3⟩:=zfk c hc e (by omega)
   have hwl:(List.replicate (1 - e - (Lib.decDigits c).length).toNat (48:UInt8)).length+(Lib.decDigits c).length=(wideW c e).length:=by unfold wideW; simp
   have hww:List.replicate (1 - e - (Lib.decDigits c).length).toNat (48:UInt8)++Lib.decDigits c=wideW c e:=rfl
   rw [zd (by omega),if_neg hE,show e.toNat=0 from by omega,List.replicate_zero,List.append_nil,zu4 n _ _ neg (c:Int) e (by omega) (1 - e - (Lib.decDigits c).length).toNat n _ (by omega) (by omega) (by omega),hww]
   generalize wideW c e=w at w1 w2 w3
   have hat:IntKind.wrap .i64 ((w.length:Int)+e)=((w.length - e.natAbs:Nat):Int):=by rw [zi (by omega)]; omega
   rw [hat]
   have s1:sub w 0 ((w.length - e.natAbs:Nat):Int)=some (w.take (w.length - e.natAbs)):=by
    have:=zo w 0 (w.length - e.natAbs) (by omega) (by omega)
    rw [List.drop_zero] at this
    exact this
   have s2:sub w ((w.length - e.natAbs:Nat):Int) (w.length:Int)=some (w.drop (w.length - e.natAbs)):=by
    have:=zo w (w.length - e.natAbs) w.length (by omega) (Nat.le_refl _)
    rw [List.take_length] at this
    exact this
   rw [s1,za,zd (by rw [zj]; simp; omega),s2,za,zd (by rw [zj]; simp; omega)]
   cases neg
   · rfl
   · rw [cond_true,zd (by rw [zj]; simp; omega)]
     rfl
end Go.AM
set_option linter.unusedVariables false
set_option linter.unusedSimpArgs false
namespace Go.AM
def MetWf (m:MetD):Prop:=(∀ d∈m.2.2.1,DecLOK d)
def valL:List DecL→List UInt8
 | []=>[]
 | d::_=>textD d.1 d.2.1.toNat d.2.2
theorem za7 {m:MetD} (h:chkM m=0):nameOK m.1=true∧kindB m.2.1=true∧valsB m.2.2.1=true∧rateB m.2.1 m.2.2.2.1=true∧tagsB m.2.2.2.2.1=true∧timeB m.2.2.2.2.2.1=true:=by
 unfold chkM at h
 revert h
 cases nameOK m.1<;>cases kindB m.2.1<;>cases valsB m.2.2.1<;>cases rateB m.2.1 m.2.2.2.1<;>cases tagsB m.2.2.2.2.1<;>cases timeB m.2.2.2.2.2.1<;>simp
theorem zbp {d:DecL} (hd:DecLOK d) (h:decC d=0):(textD d.1 d.2.1.toNat d.2.2).length≤39:=by
 obtain ⟨neg,c,e,rfl,hc,he⟩:=za5 hd
 exact (zuy neg c hc e (zby h).2).1
theorem zee (n:Nat) (hn:200000≤n) {d:DecL} (hd:DecLOK d) (h:decC d=0):F.zby n (d.1,d.2.1,d.2.2,())=some (textD d.1 d.2.1.toNat d.2.2,0,()):=by
 obtain ⟨neg,c,e,rfl,hc,he⟩:=za5 hd
 have h':checkR neg c e=0:=h
 have:=zux n hn neg c hc e he
 rw [if_pos h'] at this
 exact this
theorem zdq (n:Nat) (hn:200000≤n) {d:DecL} (hd:DecLOK d) (h:decC d=0):F.zl n (d.1,d.2.1,d.2.2,())=some (textD d.1 d.2.1.toNat d.2.2):=by
 obtain ⟨neg,c,e,rfl,hc,he⟩:=za5 hd
 exact zu5 n hn neg c hc e (zby h).2
end Go.AM
set_option linter.unusedVariables false
set_option linter.unusedSimpArgs false
namespace Go.AM
theorem zpd (n:Nat) (X:Type) (k0:List UInt8→Int→List DecL→Int→List TagL→Int→Option X) (kr:Bool→List UInt8→Int→List DecL→Int→List TagL→Int→Option X) (vs:List TagL) (hs:vs.length≤140737488351232) (b0:List UInt8) (b1:Int) (b2:List DecL) (b3:Int) (b5:Int):∀ (j k m:Nat),k+j=51→j<m →
 F.zaa.L2 n k0 kr m (k:Int) b0 b1 b2 b3 vs b5=bif ((vs.drop k).take j).all (fun t=>decide (t.1.length≤200)&&decide (t.2.length≤200)) then k0 b0 b1 b2 b3 vs b5 else kr false b0 b1 b2 b3 vs b5:=by
 intro j
 induction j with
 | zero =>
  intro k m hk hm
  obtain ⟨m,rfl⟩:∃ q,m=q+1:=⟨m - 1,by omega⟩
  show F.zaa.L2.step n (F.zaa.L2 n k0 kr m) k0 kr _ _ _ _ _ _ _=_
  unfold F.zaa.L2.step
  rw [ze (by omega:¬ (k:Int)<51)]
  by_cases h:(k:Int)<(vs.length:Int)
  · rw [zd h]; rfl
  · rw [ze h]; rfl
 | succ j ih =>
  intro k m hk hm
  obtain ⟨m,rfl⟩:∃ q,m=q+1:=⟨m - 1,by omega⟩
  show F.zaa.L2.step n (F.zaa.L2 n k0 kr m) k0 kr _ _ _ _ _ _ _=_
  unfold F.zaa.L2.step
  rw [zd (by omega:(k:Int)<51)]
  by_cases h:k<vs.length
  · rw [zd (by omega),zcf h]
    have hd:vs.drop k=vs[k]::vs.drop (k+1):=List.drop_eq_getElem_cons h
    simp only [za,hd,List.take_succ_cons,List.all_cons]
    rw [zh (by omega),ih (k+1) m (by omega) (by omega)]
    by_cases h1:vs[k].1.length≤200
    · rw [ze (by omega),decide_eq_true h1]
      by_cases h2:vs[k].2.length≤200
      · rw [ze (by omega),decide_eq_true h2]; rfl
      · rw [zd (by omega),decide_eq_false h2]; rfl
    · rw [zd (by omega),decide_eq_false h1]; rfl
  · rw [ze (by omega),List.drop_eq_nil_of_le (by omega)]; rfl
def smallB (m:MetD):Bool:=(m.2.2.2.2.1.take 51).all (fun t=>decide (t.1.length≤200)&&decide (t.2.length≤200))&&(decide (m.1.length≤300)&&(decide (m.2.2.1.length≤80)&&decide (m.2.2.2.2.1.length≤50)))
theorem zu6 (n:Nat) (hn:200000≤n) (m:MetD) (hs:m.2.2.2.2.1.length≤140737488351232):F.zaa n m=some (smallB m):=by
 obtain ⟨nm,k,vs,r,ts,t,_⟩:=m
 simp only at hs
 unfold F.zaa smallB
 refine (zpd n Bool _ _ ts hs nm k vs r t 51 0 n (by omega) (by omega)).trans ?_
 rw [List.drop_zero]
 simp only
 cases (ts.take 51).all (fun t=>decide (t.1.length≤200)&&decide (t.2.length≤200))
 · rfl
 · rw [cond_true]
   have e1:decide ((nm.length:Int)≤300)=decide (nm.length≤300):=by apply decide_eq_decide.2; omega
   have e2:decide ((vs.length:Int)≤80)=decide (vs.length≤80):=by apply decide_eq_decide.2; omega
   have e3:decide ((ts.length:Int)≤50)=decide (ts.length≤50):=by apply decide_eq_decide.2; omega
   rw [e1,e2,e3]
   cases decide (nm.length≤300)<;>cases decide (vs.length≤80)<;>rfl
theorem zu7 {m:MetD} (hw:MetWf m) (h:smallB m=true):MetOK m∧m.1.length≤300:=by
 unfold smallB at h
 simp only [Bool.and_eq_true,decide_eq_true_eq] at h
 obtain ⟨h1,h2,h3,h4⟩:=h
 refine ⟨⟨by omega,⟨by omega,hw⟩,by omega,fun t ht => ?_⟩,h2⟩
 rw [List.take_of_length_le (by omega)] at h1
 have:=List.all_eq_true.1 h1 t ht
 simp only [Bool.and_eq_true,decide_eq_true_eq] at this
 exact ⟨by omega,by omega⟩
end Go.AM
set_option linter.unusedVariables false
set_option linter.unusedSimpArgs false
namespace Go.AM
abbrev NumR:=Int×(Int×Int×Unit)×Unit
def numR (v c at':Int):NumR:=(v,(c,at',()),())
theorem zg4:cls 4=isDig:=funext cls4
theorem zu8 (n:Nat) (c a:Int):F.zar n c a=some (0,(c,a,()),()):=rfl
theorem zbb {s:List UInt8} {k:Nat} (h:¬ 0≤badK isDig k s):Digs s:=Classical.byContradiction fun hh=>h ((zcx _ _ _).2 hh)
theorem textF4 (s:List UInt8) (hs:s.length<4611686018427387904):textF 4 s 1 (IntKind.wrap .i64 ((s.length:Int)+1))=if s=[] then (13,0,()) else if 0≤badK isDig 0 s then (14,badK isDig 0 s,()) else (0,0,()):=by
 unfold textF
 rw [zh hs,zg4]
 have hm:may 4=true:=rfl
 rw [if_neg (by simp [hm]; omega)]
 cases s with
 | nil=>rfl
 | cons b s =>
  rw [if_neg (show ¬ (((b::s).length:Nat):Int)<1 from by simp; omega),if_neg (show ¬ (((b::s).length:Nat):Int)>(((b::s).length+1:Nat):Int) from by omega),if_neg (show ¬ (b::s=[]) from by simp)]
theorem zpe (n:Nat) (X:Type) (k0:Int→Option X) (kr:Int→Bool→Option X) (s:List UInt8) (hs:s.length<4611686018427387904):∀ (r:List UInt8) (k m:Nat),s.drop k=r→r.length<m→Digs r→val (s.take k)<9223372036854775808 →
 F.z7.L3 n k0 kr m s (val (s.take k):Int) (k:Int)=if val s<9223372036854775808 then k0 (val s) else kr 0 false:=by
 intro r
 induction r with
 | nil =>
  intro k m hk hm hd hv
  have hk:=zl hk
  cases m with
  | zero=>simp at hm
  | succ m =>
   show F.z7.L3.step n _ k0 kr s _ k=_
   unfold F.z7.L3.step
   rw [ze (by omega)]
   rw [List.take_of_length_le hk] at hv ⊢
   rw [if_pos hv]
 | cons x r ih =>
  intro k m hk hm hd hv
  obtain ⟨h1,h2,h3⟩:=zk hk
  obtain ⟨d1,d2⟩:=zv.1 hd
  have hx:=zac.1 d1
  cases m with
  | zero=>simp at hm
  | succ m =>
   show F.z7.L3.step n (F.z7.L3 n k0 kr m) k0 kr s _ k=_
   unfold F.z7.L3.step
   have htk:s.take (k+1)=s.take k++[x]:=by rw [List.take_add_one,h2]; rfl
   have hvk:val (s.take (k+1))=val (s.take k)*10+dv x:=by rw [htk,zb5]
   have hsv:val (s.take (k+1))≤val s:=by
    have e:s=s.take (k+1)++s.drop (k+1):=(List.take_append_drop _ _).symm
    have h5:val s=val (s.take (k+1))*10 ^ (s.drop (k+1)).length+val (s.drop (k+1)):=by
     conv=>lhs; rw [e]
     rw [zbk]
    have:=Nat.le_mul_of_pos_right (val (s.take (k+1))) (Nat.pow_pos (n:=(s.drop (k+1)).length) (show 0<10 by omega))
    omega
   have hdx:IntKind.wrap .i64 (IntKind.wrap .u8 ((x.toNat:Int) - 48))=(dv x:Int):=by
    have h8:IntKind.wrap .u8 ((x.toNat:Int) - 48)=(x.toNat:Int) - 48:=IntWalk.u8_in _ (by omega)
    rw [h8,zi (by omega)]; unfold dv; omega
   have hdl:=zf1 d1
   rw [zd (by omega),zm,h2,za,hdx,zi (x:=9223372036854775807 - (dv x:Int)) (by omega)]
   have hdiv:((9223372036854775807:Int) - (dv x:Int)).tdiv 10=(((9223372036854775807 - dv x) / 10:Nat):Int):=by
    rw [show ((9223372036854775807:Int) - (dv x:Int))=((9223372036854775807 - dv x:Nat):Int) from by omega]; rfl
   rw [hdiv,zi (x:=(((9223372036854775807 - dv x) / 10:Nat):Int)) (by omega)]
   by_cases hb:val (s.take (k+1))<9223372036854775808
   · rw [ze (by omega),zi (x:=10*(val (s.take k):Int)) (by omega),zi (by omega),zh (by omega),show (10*(val (s.take k):Int)+(dv x:Int))=(val (s.take (k+1)):Int) from by omega]
     exact ih (k+1) m h3 (by simp at hm; omega) d2 hb
   · rw [zd (by omega),if_neg (by omega)]
theorem zju (n:Nat) (s:List UInt8) (hs:s.length<4611686018427387904) (hn:s.length<n) (hd:Digs s):F.z7 n s=some (if val s<9223372036854775808 then ((val s:Int),true,()) else (0,false,())):=by
 unfold F.z7
 refine (zpe n _ _ _ s hs s 0 n rfl hn hd (by rw [List.take_zero,zcw]; omega)).trans ?_
 by_cases h:val s<9223372036854775808
 · rw [if_pos h,if_pos h]
 · rw [if_neg h,if_neg h]
theorem zj6 (n:Nat):∀ (m u:Nat),u<18446744073709551616→Lib.nDigits u≤m→F.zam.go n m (u:Int)=some (Lib.decDigits u):=by
 intro m
 induction m with
 | zero =>
  intro u _ h
  have:=Lib.nDigits_pos u
  omega
 | succ m ih =>
  intro u hu h
  have one:∀ d:Nat,d<10→sub ([48,49,50,51,52,53,54,55,56,57]:List UInt8) (d:Int) ((d+1:Nat):Int)=some [UInt8.ofNat (48+d)]:=by
   intro d hd
   rw [zo _ _ _ (by omega) (by simp; omega)]
   have:=(by decide:∀ d:Fin 10,(([48,49,50,51,52,53,54,55,56,57]:List UInt8).take (d.val+1)).drop d.val=[UInt8.ofNat (48+d.val)]) ⟨d,hd⟩
   rw [this]
  show (bif decide ((u:Int)<10) then _ else _)=_
  by_cases h1:u<10
  · rw [zd (by omega),show IntKind.wrap .u64 ((u:Int)+1)=((u+1:Nat):Int) from by rw [IntWalk.u64_in _ (by omega)]; omega,one u h1,za,zb6 h1]
  · rw [ze (by omega)]
    have e1:(u:Int).tdiv 10=((u / 10:Nat):Int):=rfl
    have e2:(u:Int).tmod 10=((u % 10:Nat):Int):=rfl
    have hN:=Lib.nDigits_big h1
    rw [e1,e2,IntWalk.u64_in _ (by omega),ih (u / 10) (by omega) (by omega),za,show IntKind.wrap .u64 (((u % 10:Nat):Int)+1)=((u % 10+1:Nat):Int) from by rw [IntWalk.u64_in _ (by omega)]; omega,one (u % 10) (by omega),za,zhw h1,zd]
    have:=Lib.nDigits_le20 (u / 10) (by omega)
    rw [zcg,zj]
    simp; omega
theorem zef (n:Nat) (hn:20≤n) (u:Nat) (hu:u<18446744073709551616):F.zam n (u:Int)=some (Lib.decDigits u):=by
 unfold F.zam
 exact zj6 n n u hu (Nat.le_trans (Lib.nDigits_le20 u hu) hn)
end Go.AM
set_option linter.unusedVariables false
set_option linter.unusedSimpArgs false
namespace Go.AM
def pad6 (k:Nat):List UInt8:=(Lib.decDigits (1000000+k)).drop 1
theorem zc5 {k:Nat} (h:k<1000000):Lib.decDigits (1000000+k)=49::pad6 k∧(pad6 k).length=6∧Digs (pad6 k)∧val (pad6 k)=k:=by
 have hN:(Lib.decDigits (1000000+k)).length=7:=by rw [zcg]; exact Lib.nDigits_unique 6 _ (by omega) (by omega)
 have hd:=zax (1000000+k)
 have hv:=zbx (1000000+k)
 unfold pad6
 cases e:Lib.decDigits (1000000+k) with
 | nil=>rw [e] at hN; simp at hN
 | cons b r =>
  rw [e] at hN hd hv
  have hr:r.length=6:=by simpa using hN
  obtain ⟨d1,d2⟩:=zv.1 hd
  have:=zbw d2
  rw [hr] at this
  rw [zai,hr] at hv
  have hb:dv b=1:=by omega
  have:b=49:=zfg d1 rfl hb
  subst this
  refine ⟨rfl,hr,d2,?_⟩
  show val r=k
  omega
def rateText (k:Int):List UInt8×Int×Unit:=
 if k<1∨k>1000000 then ([],10,()) else if k=1000000 then ([49],0,()) else ([48,46]++trz (pad6 k.toNat),0,())
theorem zfm (n:Nat) (k:Int):F.zbt n k=some (rateText k):=by
 unfold F.zbt rateText
 by_cases h1:k<1
 · rw [zd h1,if_pos (Or.inl h1)]
 rw [ze h1]
 by_cases h2:k>1000000
 · rw [zd h2,if_pos (Or.inr h2)]
 rw [ze h2,if_neg (by omega)]
 by_cases h3:k=1000000
 · subst h3; rfl
 have e3:(k==1000000)=false:=by simpa using h3
 rw [e3,cond_false,if_neg h3,zi (by omega)]
 obtain ⟨p1,p2,p3,p4⟩:=zc5 (k:=k.toNat) (by omega)
 have hi:O.itoa n (1000000+k)=some (49::pad6 k.toNat):=by
  unfold O.itoa
  have:(decide (-9223372036854775808≤1000000+k)&&decide (1000000+k≤9223372036854775807))=true:=by simp; omega
  rw [this,cond_true]
  unfold Lib.itoa
  rw [if_neg (by omega),show (1000000+k).toNat=1000000+k.toNat from by omega,p1]
 rw [hi,za]
 have hsub:sub (49::pad6 k.toNat) 1 (((49::pad6 k.toNat).length:Nat):Int)=some (pad6 k.toNat):=by
  have:=zo (49::pad6 k.toNat) 1 (49::pad6 k.toNat).length (by simp) (by simp)
  rw [List.take_length] at this
  exact this
 rw [hsub,za]
 unfold O.trimR
 have hb:(Nat.blt (48:UInt8).toNat 128&&Nat.ble (pad6 k.toNat).length big47)=true:=by rw [p2]; rfl
 simp only [hb,cond_true,za,zjo]
 rw [zd]
 have:=zc2 (pad6 k.toNat)
 rw [zj]
 omega
theorem zrq (n:Nat) (X:Type) (k0:List UInt8→Option X):∀ (j m:Nat) (v:List UInt8),v.length+j=6→j<m→F.zg.L4 n k0 m v=k0 (List.replicate j 48++v):=by
 intro j
 induction j with
 | zero =>
  intro m v h hm
  cases m with
  | zero=>omega
  | succ m =>
   show F.zg.L4.step n _ k0 v=_
   unfold F.zg.L4.step
   rw [ze (by omega)]; rfl
 | succ j ih =>
  intro m v h hm
  cases m with
  | zero=>omega
  | succ m =>
   show F.zg.L4.step n (F.zg.L4 n k0 m) k0 v=_
   unfold F.zg.L4.step
   rw [zd (by omega),zd (by rw [zj]; omega),ih m _ (by simp; omega) (by omega),List.replicate_succ',List.append_assoc]
theorem zpf (n:Nat) (X:Type) (k2:List UInt8→Option X) (a:List UInt8) (ha:a≠[]) (hl:∀ x,a.getLast? = some x→x≠48) (hal:a.length<1000):∀ (j m:Nat),j<m→j<1000→F.zg.L6 n k2 m (a++List.replicate j 48)=k2 a:=by
 intro j
 induction j with
 | zero =>
  intro m hm hj
  cases m with
  | zero=>omega
  | succ m =>
   show F.zg.L6.step n _ k2 _=_
   unfold F.zg.L6.step
   rw [List.replicate_zero,List.append_nil]
   have hp:0<a.length:=List.length_pos_iff.2 ha
   rw [zi (by omega),zec hp]
   have hg:a[a.length - 1]? = a.getLast?:=by rw [List.getLast?_eq_getElem?]
   rw [hg]
   cases e:a.getLast? with
   | none=>simp at e; exact absurd e ha
   | some x =>
    have hx:=hl x e
    have e2:((x.toNat:Int)==48)=false:=by
     have:¬ (x.toNat:Int)=48:=fun h=>hx (za9 (by simp; omega))
     simpa using this
    rw [za,e2,cond_false]
 | succ j ih =>
  intro m hm hj
  cases m with
  | zero=>omega
  | succ m =>
   show F.zg.L6.step n (F.zg.L6 n k2 m) k2 _=_
   unfold F.zg.L6.step
   rw [List.replicate_succ',← List.append_assoc]
   have hlen:(a++List.replicate j (48:UInt8)++[48]).length=a.length+j+1:=by simp; omega
   rw [zi (by omega),zec (by omega)]
   have hg:(a++List.replicate j (48:UInt8)++[48])[(a++List.replicate j (48:UInt8)++[48]).length - 1]? = some 48:=by
    rw [← List.getLast?_eq_getElem?]; simp
   rw [hg,za]
   have e2:((((48:UInt8).toNat:Nat):Int)==48)=true:=rfl
   rw [e2,cond_true]
   have hs:sub (a++List.replicate j (48:UInt8)++[48]) 0 (((a++List.replicate j (48:UInt8)++[48]).length:Int) - 1)=some (a++List.replicate j 48):=by
    have:=zo (a++List.replicate j (48:UInt8)++[48]) 0 (a.length+j) (by omega) (by rw [hlen]; omega)
    rw [hlen,show (((a.length+j+1:Nat):Int) - 1)=((a.length+j:Nat):Int) from by omega]
    refine this.trans ?_
    rw [List.drop_zero,List.take_append_of_le_length (by simp),List.take_of_length_le (by simp)]
   rw [hs,za]
   exact ih m (by omega) (by omega)
theorem zfn (n:Nat) (hn:100≤n) (k:Int) (h:1≤k∧k≤1000000):F.zg n k=some (rateText k).1:=by
 unfold F.zg rateText
 rw [if_neg (by omega)]
 by_cases h3:k=1000000
 · subst h3; rfl
 have e3:(k==1000000)=false:=by simpa using h3
 rw [e3,cond_false,if_neg h3]
 obtain ⟨u,rfl⟩:∃ u:Nat,k=u:=⟨k.toNat,by omega⟩
 rw [IntWalk.u64_in _ (by omega),zef n (by omega) u (by omega),za]
 have hl:(Lib.decDigits u).length≤6:=zfh (by omega) (by omega)
 obtain ⟨p1,p2,p3,p4⟩:=zc5 (k:=u) (by omega)
 have hpad:List.replicate (6 - (Lib.decDigits u).length) 48++Lib.decDigits u=pad6 u:=
  zii (zu.2 ⟨zbg _,zax u⟩) p3 (by simp; omega) (by rw [zdv,zbx,p4])
 rw [zrq n _ _ (6 - (Lib.decDigits u).length) n _ (by omega) (by omega),hpad]
 have ht:=zc2 (pad6 u)
 have hne:trz (pad6 u)≠[]:=fun hh=>by have:=(zf2 p3).1 hh; omega
 conv=>lhs; rw [zbr (pad6 u)]
 rw [zpf n _ _ (trz (pad6 u)) hne (fun x=>zb7) (by omega) _ n (by omega) (by omega),zd (by rw [zj]; omega)]
 simp
def rateR (s:List UInt8):NumR:=
 if s=[49] then numR 1000000 0 0 else if s=[] then numR 0 13 0 else if s.head? ≠ some 48 then numR 0 11 0 else if (s.drop 1).head? ≠ some 46 then numR 0 11 1
 else if s.drop 2=[] then numR 0 13 2 else if 0≤badK isDig 0 (s.drop 2) then numR 0 14 (2+badK isDig 0 (s.drop 2)) else if 6<(s.drop 2).length then numR 0 12 8
 else if val (s.drop 2)=0 then numR 0 10 0 else numR ((val (s.drop 2)*10 ^ (6 - (s.drop 2).length):Nat):Int) 0 0
theorem zin (n:Nat) (X:Type) (k3:Int→Int→Int→Int→Int→Int→Int→Option X) (d:List UInt8) (hd:Digs d) (hl:d.length≤6) (a b c e f g:Int):∀ (j i m:Nat),i+j=6→j<m →
 F.zw.L23 n k3 m d (i:Int) a b c e f g (val ((d++List.replicate (6 - d.length) 48).take i):Int)=k3 a b c e f g ((val d*10 ^ (6 - d.length):Nat):Int):=by
 have hD:Digs (d++List.replicate (6 - d.length) 48):=zu.2 ⟨hd,zbg _⟩
 have hL:(d++List.replicate (6 - d.length) (48:UInt8)).length=6:=by simp; omega
 intro j
 induction j with
 | zero =>
  intro i m hi hm
  cases m with
  | zero=>omega
  | succ m =>
   show F.zw.L23.step n _ k3 d _ _ _ _ _ _ _ _=_
   unfold F.zw.L23.step
   rw [ze (by omega),List.take_of_length_le (by omega),zy]
 | succ j ih =>
  intro i m hi hm
  cases m with
  | zero=>omega
  | succ m =>
   show F.zw.L23.step n (F.zw.L23 n k3 m) k3 d _ _ _ _ _ _ _ _=_
   unfold F.zw.L23.step
   rw [zd (by omega),zh (by omega)]
   have hb:val ((d++List.replicate (6 - d.length) 48).take i)<10 ^ i:=by
    have:=zbw (zq5 i hD)
    rw [List.length_take,hL,Nat.min_eq_left (by omega)] at this
    exact this
   have hp:(10:Nat) ^ i≤10 ^ 6:=Nat.pow_le_pow_right (by omega) (by omega)
   have hstep:∀ x,(d++List.replicate (6 - d.length) (48:UInt8))[i]? = some x→val ((d++List.replicate (6 - d.length) 48).take (i+1))=val ((d++List.replicate (6 - d.length) 48).take i)*10+dv x:=by
    intro x hx
    rw [List.take_add_one,hx]
    exact zb5 _ _
   by_cases hlt:i<d.length
   · have hx:(d++List.replicate (6 - d.length) (48:UInt8))[i]? = d[i]?:=List.getElem?_append_left hlt
     rw [zd (by omega),zcf hlt,za]
     have hg:d[i]? = some d[i]:=by simp [hlt]
     have hdx:=List.all_eq_true.1 hd d[i] (List.getElem_mem hlt)
     have hdi:=zac.1 hdx
     have hv:=hstep d[i] (hx.trans hg)
     have hdl:=zf1 hdx
     have h8:IntKind.wrap .i64 (IntKind.wrap .u8 ((d[i].toNat:Int) - 48))=(dv d[i]:Int):=by
      rw [IntWalk.u8_in _ (by omega),zi (by omega)]; unfold dv; omega
     rw [h8,zi (x:=10*_) (by omega),zi (by omega),show 10*(val ((d++List.replicate (6 - d.length) (48:UInt8)).take i):Int)+(dv d[i]:Int)=(val ((d++List.replicate (6 - d.length) (48:UInt8)).take (i+1)):Int) from by omega]
     exact ih (i+1) m (by omega) (by omega)
   · have hx:(d++List.replicate (6 - d.length) (48:UInt8))[i]? = some 48:=by
      rw [List.getElem?_append_right (by omega),List.getElem?_replicate,if_pos (by omega)]
     have hv:=hstep 48 hx
     rw [zv5] at hv
     rw [ze (by omega),zi (x:=10*_) (by omega),zi (by omega),show 10*(val ((d++List.replicate (6 - d.length) (48:UInt8)).take i):Int)+0=(val ((d++List.replicate (6 - d.length) (48:UInt8)).take (i+1)):Int) from by omega]
     exact ih (i+1) m (by omega) (by omega)
theorem zio (n:Nat) (X:Type) (k0:List UInt8→Int→Int→Int→Int→Option X) (s:List UInt8) (m:Nat) (hm:3≤m) :
 F.zw.L5 n k0 m s (48,46,()) 0 0 0 0 0=if s=[] then k0 s 0 0 13 0 else if s.head? ≠ some 48 then k0 s 0 0 11 0 else if (s.drop 1).head? ≠ some 46 then k0 s 0 0 11 1 else k0 s 0 0 0 0:=by
 obtain ⟨m,rfl⟩:∃ q,m=q+3:=⟨m - 3,by omega⟩
 show F.zw.L5.step n (F.zw.L5 n k0 (m+2)) k0 s _ _ _ _ _ _=_
 have hb:∀ (b c:UInt8),((b.toNat:Int)==(c.toNat:Int))=decide (b=c):=by
  intro b c
  by_cases h:b=c
  · simp [h]
  · have:¬ (b.toNat:Int)=(c.toNat:Int):=fun hh=>h (za9 (by omega))
    simp [h,this]
 cases s with
 | nil=>rfl
 | cons b r =>
  have e48:((b.toNat:Int)==48)=decide (b=48):=hb b 48
  unfold F.zw.L5.step
  have a1:decide ((0:Int)<2)=true:=rfl
  have a2:((0:Int)==0)=true:=rfl
  have a3:((0:Int)==(((b::r).length:Nat):Int))=false:=by
   have:¬ (0:Int)=(((b::r).length:Nat):Int):=by simp; omega
   simpa using this
  have a4:decide ((0:Int)≥(((b::r).length:Nat):Int))=false:=by
   have:¬ (0:Int)≥(((b::r).length:Nat):Int):=by simp only [List.length_cons]; omega
   exact decide_eq_false this
  have a5:idx (b::r) (0:Int)=some b:=rfl
  rw [a1,a2,a3,a4,a5,cond_true,cond_true,cond_false,cond_false,za,e48]
  by_cases h1:b=48
  · subst h1
    simp only [decide_true,Bool.not_true,cond_false]
    show F.zw.L5.step n (F.zw.L5 n k0 (m+1)) k0 _ _ 1 _ _ _ _=_
    unfold F.zw.L5.step
    have c1:decide ((1:Int)<2)=true:=rfl
    have c2:((1:Int)==0)=false:=rfl
    have c3:((1:Int)==1)=true:=rfl
    rw [c1,c2,c3,cond_true,cond_false,cond_true]
    cases r with
    | nil=>rfl
    | cons c r =>
     have e46:((c.toNat:Int)==46)=decide (c=46):=hb c 46
     have b3:((1:Int)==(((48::c::r).length:Nat):Int))=false:=by
      have:¬ (1:Int)=(((48::c::r).length:Nat):Int):=by simp; omega
      simpa using this
     have b4:decide ((1:Int)≥(((48::c::r).length:Nat):Int))=false:=by
      have:¬ (1:Int)≥(((48::c::r).length:Nat):Int):=by simp; omega
      simpa using this
     have b5:idx (48::c::r) (1:Int)=some c:=rfl
     rw [b3,b4,b5,cond_false,cond_false,za,e46]
     by_cases h2:c=46
     · subst h2
       rfl
     · simp [h2]
  · simp [h1]
theorem zl0 (n : Nat) (hn:100≤n) (s:List UInt8) (hs:s.length≤1000000) (hl:s.length<n):F.zw n s=some (rateR s):=by
 unfold F.zw rateR
 by_cases h1:s=[49]
 · rw [if_pos h1,h1]; rfl
 have e1:(s==[49])=false:=by simpa using h1
 rw [e1,cond_false,if_neg h1,zio n _ _ s n (by omega)]
 by_cases h2:s=[]
 · rw [if_pos h2,if_pos h2]; rfl
 rw [if_neg h2,if_neg h2]
 by_cases h3:s.head? ≠ some 48
 · rw [if_pos h3,if_pos h3]; rfl
 rw [if_neg h3,if_neg h3]
 by_cases h4:(s.drop 1).head? ≠ some 46
 · rw [if_pos h4,if_pos h4]; rfl
 rw [if_neg h4,if_neg h4]
 have e2:(!((0:Int)==0&&(0:Int)==0))=false:=rfl
 simp only [e2,cond_false]
 have hlen:2≤s.length:=by
  cases s with
  | nil=>exact absurd rfl h2
  | cons b r=>cases r with
   | nil=>simp at h4
   | cons=>simp
 have hsub:sub s 2 (s.length:Int)=some (s.drop 2):=by
  have:=zo s 2 s.length hlen (Nat.le_refl _)
  rw [List.take_length] at this
  exact this
 have hdl:(s.drop 2).length+2=s.length:=by simp; omega
 rw [hsub,za,zbh n 4 _ _ _ (by omega) (by omega),za,textF4 _ (by omega)]
 generalize s.drop 2=d at hdl ⊢
 by_cases h5:d=[]
 · rw [if_pos h5,if_pos h5]; rfl
 rw [if_neg h5,if_neg h5]
 by_cases h6:0≤badK isDig 0 d
 · rw [if_pos h6,if_pos h6]
   have:=zoa isDig 0 d
   have e:(!((14:Int)==0&&badK isDig 0 d==0))=true:=rfl
   simp only [e,cond_true,zu8,za]
   rw [zi (by omega)]
   rfl
 rw [if_neg h6,if_neg h6]
 simp only [e2,cond_false]
 have hd:=zbb h6
 by_cases h7:6<d.length
 · rw [zd (by omega),if_pos h7]; rfl
 rw [ze (by omega),if_neg h7]
 have:=zin n _ (fun e12_b0_0 e12_b0_1 e12_b1_0 e12_b1_1 e12_b2_0 e12_b2_1 e12_b3_0 =>
  bif e12_b3_0==(0:Int) then
   (F.zar n (10:Int) (0:Int)).bind fun y13 =>
    some ((y13.1,(y13.2.1.1,y13.2.1.2.1,()),()))
  else
   some ((e12_b3_0,((0:Int),(0:Int),()),()))) d hd (by omega) 0 0 0 0 0 0 6 0 n (by omega) (by omega)
 refine this.trans ?_
 have hpp:0<10 ^ (6 - d.length):=Nat.pow_pos (by omega)
 by_cases h8:val d=0
 · rw [if_pos h8,h8,Nat.zero_mul]; rfl
 · rw [if_neg h8]
   have:¬ ((val d*10 ^ (6 - d.length):Nat):Int)=0:=by
    have:=Nat.mul_pos (Nat.pos_of_ne_zero h8) hpp
    omega
   have e:(((val d*10 ^ (6 - d.length):Nat):Int)==0)=false:=by simpa using this
   rw [e,cond_false]
   rfl
end Go.AM
set_option linter.unusedVariables false
set_option linter.unusedSimpArgs false
namespace Go.AM
theorem zrr (d:List UInt8):rateR (48::46::d)=if d=[] then numR 0 13 2 else if 0≤badK isDig 0 d then numR 0 14 (2+badK isDig 0 d) else if 6<d.length then numR 0 12 8
 else if val d=0 then numR 0 10 0 else numR ((val d*10 ^ (6 - d.length):Nat):Int) 0 0:=by
 unfold rateR
 rw [if_neg (by simp),if_neg (by simp),if_neg (by simp),if_neg (by simp)]
 rfl
theorem zcm {k:Int} (hk:1≤k∧k<1000000):rateText k=(48::46::trz (pad6 k.toNat),0,()):=by
 unfold rateText
 rw [if_neg (by omega),if_neg (by omega)]; rfl
theorem ziq {s:List UInt8} (h:(rateR s).2.1.1=0):(rateR s).2.1.2.1=0∧1≤(rateR s).1∧(rateR s).1≤1000000∧(rateText (rateR s).1).2.1=0 ∧
 ∃ a j,s=a++List.replicate j 48∧(rateText (rateR s).1).1=a∧a≠[]∧(∀ x,a.getLast? = some x→x≠48):=by
 by_cases h1:s=[49]
 · subst h1
   exact ⟨rfl,by decide,by decide,rfl,[49],0,rfl,rfl,by simp,by simp⟩
 have e:=h
 unfold rateR at e
 rw [if_neg h1] at e
 by_cases h2:s=[]
 · rw [if_pos h2] at e; cases e
 rw [if_neg h2] at e
 by_cases h3:s.head? ≠ some 48
 · rw [if_pos h3] at e; cases e
 rw [if_neg h3] at e
 by_cases h4:(s.drop 1).head? ≠ some 46
 · rw [if_pos h4] at e; cases e
 clear e
 obtain ⟨d,rfl⟩:∃ d,s=48::46::d:=by
  cases s with
  | nil=>exact absurd rfl h2
  | cons b r=>cases r with
   | nil=>simp at h4
   | cons c r =>
    simp at h3 h4
    exact ⟨r,by rw [h3,h4]⟩
 rw [zrr] at h ⊢
 by_cases g1:d=[]
 · rw [if_pos g1] at h; cases h
 rw [if_neg g1] at h ⊢
 by_cases g2:0≤badK isDig 0 d
 · rw [if_pos g2] at h; cases h
 rw [if_neg g2] at h ⊢
 by_cases g3:6<d.length
 · rw [if_pos g3] at h; cases h
 rw [if_neg g3] at h ⊢
 by_cases g4:val d=0
 · rw [if_pos g4] at h; cases h
 rw [if_neg g4]
 have hd:=zbb g2
 have hp:0<10 ^ (6 - d.length):=Nat.pow_pos (by omega)
 have hpos:=Nat.mul_pos (Nat.pos_of_ne_zero g4) hp
 have hub:val d*10 ^ (6 - d.length)<1000000:=by
  have h5:=zbw (zu.2 ⟨hd,zbg (6 - d.length)⟩)
  rw [zy,List.length_append,List.length_replicate,show d.length+(6 - d.length)=6 from by omega] at h5
  exact h5
 have hk:1≤((val d*10 ^ (6 - d.length):Nat):Int)∧((val d*10 ^ (6 - d.length):Nat):Int)<1000000:=by omega
 have hf:=zcm hk
 obtain ⟨p1,p2,p3,p4⟩:=zc5 hub
 have hpd:pad6 (val d*10 ^ (6 - d.length))=d++List.replicate (6 - d.length) 48:=
  zii p3 (zu.2 ⟨hd,zbg _⟩) (by simp; omega) (by rw [p4,zy])
 have ht:trz (pad6 (val d*10 ^ (6 - d.length)))=trz d:=by rw [hpd,zjp]
 have hne:trz d≠[]:=fun hh=>g4 ((zf2 hd).1 hh)
 show (0:Int)=0∧_∧_∧(rateText ((val d*10 ^ (6 - d.length):Nat):Int)).2.1=0∧∃ a j,_∧(rateText ((val d*10 ^ (6 - d.length):Nat):Int)).1=a∧_
 rw [hf]
 refine ⟨rfl,hk.1,by show ((val d*10 ^ (6 - d.length):Nat):Int)≤1000000; omega,rfl,48::46::trz d,d.length - (trz d).length,?_,?_,by simp,?_⟩
 · rw [List.cons_append,List.cons_append,← zbr]
 · show 48::46::trz (pad6 (val d*10 ^ (6 - d.length)))=_
   rw [ht]
 · intro x hx
   refine zb7 (l:=d) ?_
   rw [← hx]
   cases e:trz d with
   | nil=>exact absurd e hne
   | cons b r=>simp [List.getLast?_cons]
end Go.AM
set_option linter.unusedVariables false
set_option linter.unusedSimpArgs false
namespace Go.AM
def kindOf (s:List UInt8):Int:=if s=[99] then 1 else if s=[103] then 2 else if s=[109,115] then 3 else if s=[104] then 4 else 0
def sdKindR (s:List UInt8):Int×Int×Unit:=if kindOf s=0 then (0,16,()) else (kindOf s,0,())
theorem zhy (n:Nat) (k:Int):F.zb6 n k=some (wordL k):=by
 unfold F.zb6 wordL
 by_cases h1:k=1
 · subst h1; rfl
 by_cases h2:k=2
 · subst h2; rfl
 by_cases h3:k=3
 · subst h3; rfl
 by_cases h4:k=4
 · subst h4; rfl
 rw [beq_eq_false_iff_ne.2 h1,beq_eq_false_iff_ne.2 h2,beq_eq_false_iff_ne.2 h3,beq_eq_false_iff_ne.2 h4,if_neg h1,if_neg h2,if_neg h3,if_neg h4]
 rfl
theorem zbt (n m:Nat) {X:Type} (k0:Unit→Option X) (kr:Int→Int→Option X) (s:List UInt8) (v:Int):F.zaf.L2 n k0 kr (m+1) s v=F.zaf.L2.step n (F.zaf.L2 n k0 kr m) k0 kr s v:=rfl
theorem zdw (n:Nat) {X:Type} (rec:List UInt8→Int→Option X) (k0:Unit→Option X) (kr:Int→Int→Option X) (s:List UInt8) (v:Int) (h:v≤5) (h1:1≤v):F.zaf.L2.step n rec k0 kr s v=if v≤4∧wordL v=s then kr v 0 else rec s (v+1):=by
 unfold F.zaf.L2.step
 rw [zd h]
 simp only [O.word,za]
 rw [zi (by omega)]
 by_cases h4:v≤4
 · have hE:wordE v=0:=by unfold wordE; rw [if_pos (by omega)]
   rw [hE]
   by_cases hs:wordL v=s
   · rw [if_pos ⟨h4,hs⟩,hs]; simp
   · rw [if_neg (fun hh=>hs hh.2),beq_eq_false_iff_ne.2 hs]; rfl
 · have hE:wordE v=16:=by unfold wordE; rw [if_neg (by omega)]
   rw [hE,if_neg (fun hh=>h4 hh.1)]; rfl
theorem zrs (n:Nat) (hn:10≤n) (s:List UInt8):F.zaf n s=some (sdKindR s):=by
 unfold F.zaf
 obtain ⟨m,hm⟩:∃ q,n=q+6:=⟨n - 6,by omega⟩
 have key:∀ (X:Type) (k0:Unit→Option X) (kr:Int→Int→Option X),F.zaf.L2 n k0 kr (m+6) s 1=if kindOf s=0 then k0 () else kr (kindOf s) 0:=by
  intro X k0 kr
  rw [zbt n (m+5),zdw n _ _ _ _ _ (by omega) (by omega)]
  unfold kindOf
  have w1:wordL 1=[99]:=rfl
  have w2:wordL 2=[103]:=rfl
  have w3:wordL 3=[109,115]:=rfl
  have w4:wordL 4=[104]:=rfl
  by_cases h1:s=[99]
  · rw [if_pos ⟨by omega,by rw [h1]; rfl⟩,if_pos h1]; rfl
  rw [if_neg (fun h=>h1 (by rw [← h.2]; rfl)),if_neg h1,zbt n (m+4),zdw n _ _ _ _ _ (by omega) (by omega)]
  by_cases h2:s=[103]
  · rw [if_pos ⟨by omega,by rw [h2]; rfl⟩,if_pos h2]; rfl
  rw [if_neg (fun h=>h2 (by rw [← h.2]; rfl)),if_neg h2,zbt n (m+3),zdw n _ _ _ _ _ (by omega) (by omega)]
  by_cases h3:s=[109,115]
  · rw [if_pos ⟨by omega,by rw [h3]; rfl⟩,if_pos h3]; rfl
  rw [if_neg (fun h=>h3 (by rw [← h.2]; rfl)),if_neg h3,zbt n (m+2),zdw n _ _ _ _ _ (by omega) (by omega)]
  by_cases h4:s=[104]
  · rw [if_pos ⟨by omega,by rw [h4]; rfl⟩,if_pos h4]; rfl
  rw [if_neg (fun h=>h4 (by rw [← h.2]; rfl)),if_neg h4,zbt n (m+1),zdw n _ _ _ _ _ (by omega) (by omega),if_neg (fun h=>by have:=h.1; omega),zbt n m]
  unfold F.zaf.L2.step
  rw [ze (by omega)]
  rfl
 rw [← hm] at key
 rw [key]
 unfold sdKindR
 by_cases h:kindOf s=0
 · rw [if_pos h,if_pos h]
 · rw [if_neg h,if_neg h]
theorem zl1 (n:Nat) (hn:10≤n) (s:List UInt8):F.zan n s=some (kindOf s):=by
 unfold F.zan
 obtain ⟨m,hm⟩:∃ q,n=q+6:=⟨n - 6,by omega⟩
 have at':∀ (X:Type) (rec:List UInt8→Int→Option X) (k0:Unit→Option X) (kr:Int→Option X) (v:Int),1≤v→v≤4→F.zan.L2.step n rec k0 kr s v=if wordL v=s then kr v else rec s (v+1):=by
  intro X rec k0 kr v h1 h4
  unfold F.zan.L2.step
  rw [zd h4,zhy,za,zi (by omega)]
  by_cases hs:wordL v=s
  · rw [if_pos hs,hs]; simp
  · rw [if_neg hs,beq_eq_false_iff_ne.2 hs]; rfl
 have st:∀ (X:Type) (k0:Unit→Option X) (kr:Int→Option X) (m:Nat) (v:Int),F.zan.L2 n k0 kr (m+1) s v=F.zan.L2.step n (F.zan.L2 n k0 kr m) k0 kr s v:=fun _ _ _ _ _=>rfl
 have key:∀ (X:Type) (k0:Unit→Option X) (kr:Int→Option X),F.zan.L2 n k0 kr (m+6) s 1=if kindOf s=0 then k0 () else kr (kindOf s):=by
  intro X k0 kr
  rw [st _ _ _ (m+5),at' _ _ _ _ _ (by omega) (by omega)]
  unfold kindOf
  by_cases h1:s=[99]
  · rw [if_pos (by rw [h1]; rfl),if_pos h1]; rfl
  rw [if_neg (fun h=>h1 (by rw [← h]; rfl)),if_neg h1,st _ _ _ (m+4),at' _ _ _ _ _ (by omega) (by omega)]
  by_cases h2:s=[103]
  · rw [if_pos (by rw [h2]; rfl),if_pos h2]; rfl
  rw [if_neg (fun h=>h2 (by rw [← h]; rfl)),if_neg h2,st _ _ _ (m+3),at' _ _ _ _ _ (by omega) (by omega)]
  by_cases h3:s=[109,115]
  · rw [if_pos (by rw [h3]; rfl),if_pos h3]; rfl
  rw [if_neg (fun h=>h3 (by rw [← h]; rfl)),if_neg h3,st _ _ _ (m+2),at' _ _ _ _ _ (by omega) (by omega)]
  by_cases h4:s=[104]
  · rw [if_pos (by rw [h4]; rfl),if_pos h4]; rfl
  rw [if_neg (fun h=>h4 (by rw [← h]; rfl)),if_neg h4,st _ _ _ (m+1)]
  unfold F.zan.L2.step
  rw [ze (by omega)]
  rfl
 rw [← hm] at key
 rw [key]
 by_cases h:kindOf s=0
 · rw [if_pos h,h]
 · rw [if_neg h]
end Go.AM
set_option linter.unusedVariables false
set_option linter.unusedSimpArgs false
namespace Go.AM
abbrev KRS (X:Type):=List UInt8→List UInt8→Int→List (Bool×Int×Int)→Int→List (List UInt8×List UInt8)→Int→Int→Int→Option X
section
variable {X:Type} (n:Nat) (kr:KRS X)
def badK' (kr:KRS X) (s:List UInt8) (c a:Int):Option X:=kr s [] 0 [] 0 [] 0 c a
theorem zrt (c9:Bool) (s:List UInt8) (b10:List UInt8) (b11:Int) (b12:List (Bool×Int×Int)) (b13:Int) (b14:List (List UInt8×List UInt8)) (b15 b20 b21 b3:Int) (d0:List UInt8) (d1:Int) (d2:List (Bool×Int×Int)) (d3:Int) (d4:List (List UInt8×List UInt8)) (d5:Int) (k0 k1 k2 k3:Nat) :
 F.zb.C31 n kr c9 s b10 b11 b12 b13 b14 b15 b20 b21 b3 d0 d1 d2 d3 d4 d5 k0 k1 k2 k3=if c9=true then badK' kr s 11 (IntKind.wrap .i64 (b3 - 1)) else kr s d0 d1 d2 d3 d4 d5 0 0:=by
 cases c9<;>rfl
theorem zru (hn:100≤n) (c9:Bool) (kind:Int) (rate:List UInt8) (hr:rate.length≤10000) (hl:rate.length<n) (at':Int) (s:List UInt8) (b10:List UInt8) (b11:Int) (b12:List (Bool×Int×Int)) (b13:Int) (b14:List (List UInt8×List UInt8)) (b15 b20 b21 b3:Int) (d0:List UInt8) (d1:Int) (d2:List (Bool×Int×Int)) (d3:Int) (d4:List (List UInt8×List UInt8)) (d5:Int) (e0:Bool) (e1 e2 f0 f1:Int) (k0 k1 k2 k3:Nat) :
 F.zb.C28 n kr c9 kind rate at' s b10 b11 b12 b13 b14 b15 b20 b21 b3 d0 d1 d2 d3 d4 d5 e0 e1 e2 f0 f1 k0 k1 k2 k3 =
  if ¬ (rateR rate).2.1.1=0∨(kind=2∧¬ (rateR rate).1=1000000) then badK' kr s 18 at' else if c9=true then badK' kr s 11 (IntKind.wrap .i64 (b3 - 1)) else kr s d0 d1 d2 (rateR rate).1 d4 d5 0 0:=by
 unfold F.zb.C28
 rw [zl0 n hn rate (by omega) hl,za]
 have c30:∀ (kn:Bool→List UInt8→List UInt8→Int→List (Bool×Int×Int)→Int→List (List UInt8×List UInt8)→Int→Int→Int→Int→List UInt8→Int→List (Bool×Int×Int)→Int→List (List UInt8×List UInt8)→Int→Nat→Nat→Nat→Nat→Option X) (t:Bool) (r:Int),F.zb.C30 n kr kn c9 at' t s b10 b11 b12 b13 b14 b15 b20 b21 b3 d0 d1 d2 r d4 d5 k0 k1 k2 k3=if t=true then badK' kr s 18 at' else kn c9 s b10 b11 b12 b13 b14 b15 b20 b21 b3 d0 d1 d2 r d4 d5 k0 k1 k2 k3:=by
  intro kn t r
  cases t<;>rfl
 by_cases h0:(rateR rate).2.1.1=0
 · have h1:=(ziq h0).1
   have e:(!((rateR rate).2.1.1==0&&(rateR rate).2.1.2.1==0))=false:=by rw [h0,h1]; rfl
   rw [e,cond_false]
   by_cases hk:kind=2
   · have ek:(kind==2)=true:=by simp [hk]
     rw [ek,cond_true]
     refine (c30 _ _ _).trans ?_
     by_cases hr1:(rateR rate).1=1000000
     · have e2:(!((rateR rate).1==1000000))=false:=by simp [hr1]
       rw [e2,if_neg (by simp),if_neg (by simp [h0,hr1])]
       exact zrt n kr c9 s b10 b11 b12 b13 b14 b15 b20 b21 b3 d0 d1 d2 _ d4 d5 k0 k1 k2 k3
     · have e2:(!((rateR rate).1==1000000))=true:=by simpa using hr1
       rw [e2,if_pos rfl,if_pos (Or.inr ⟨hk,hr1⟩)]
   · have ek:(kind==2)=false:=by simpa using hk
     rw [ek,cond_false]
     refine (c30 _ _ _).trans ?_
     rw [if_neg (by simp),if_neg (by simp [h0,hk])]
     exact zrt n kr c9 s b10 b11 b12 b13 b14 b15 b20 b21 b3 d0 d1 d2 _ d4 d5 k0 k1 k2 k3
 · have e:(!((rateR rate).2.1.1==0&&(rateR rate).2.1.2.1==0))=true:=by
    have:((rateR rate).2.1.1==0)=false:=by simpa using h0
    rw [this]; rfl
   rw [e,cond_true]
   refine (c30 _ _ _).trans ?_
   rw [if_pos rfl,if_pos (Or.inl h0)]
def rateS (kr:KRS X) (s name:List UInt8) (kind:Int) (v:List (Bool×Int×Int)) (r0:Int) (tags:List (List UInt8×List UInt8)) (time:Int) (is3:Bool) (p:Nat):Option X:=
 if is3=false then kr s name kind v r0 tags time 0 0
 else if ¬ (s.drop p).head? = some 64 then badK' kr s 11 p
 else if ¬ (rateR (seg 124 (s.drop (p+1)))).2.1.1=0∨(kind=2∧¬ (rateR (seg 124 (s.drop (p+1)))).1=1000000) then badK' kr s 18 ((p+1:Nat):Int)
 else if 124∈s.drop (p+1) then badK' kr s 11 ((p+1+(seg 124 (s.drop (p+1))).length:Nat):Int) else kr s name kind v (rateR (seg 124 (s.drop (p+1)))).1 tags time 0 0
theorem zrv (hn:20000≤n) (name:List UInt8) (is3:Bool) (kind:Int) (s:List UInt8) (hs:s.length≤10000) (b10:List UInt8) (b11:Int) (b12:List (Bool×Int×Int)) (b13:Int) (b14:List (List UInt8×List UInt8)) (b15 b20 b21:Int) (p:Nat) (hp:p≤s.length) (d0:List UInt8) (d1:Int) (d2:List (Bool×Int×Int)) (d3:Int) (d4:List (List UInt8×List UInt8)) (d5:Int) (e0:Bool) (e1 e2 f0 f1:Int) (k0 k1 k2 k3:Nat) :
 F.zb.C21 n kr name is3 kind s b10 b11 b12 b13 b14 b15 b20 b21 (p:Int) d0 d1 d2 d3 d4 d5 e0 e1 e2 f0 f1 k0 k1 k2 k3=rateS kr s name kind [(e0,e1,e2)] d3 d4 d5 is3 p:=by
 unfold F.zb.C21 rateS
 cases is3
 · rfl
 · rw [Bool.not_true,cond_false,if_neg (by simp),za4 hp,za,zba,za]
   by_cases h64:(s.drop p).head? = some 64
   · have hlt:=zn8 h64
     have hsl:=z6 124 (s.drop (p+1))
     have hdl:(s.drop (p+1)).length=s.length - (p+1):=by simp
     rw [decide_eq_true h64,Bool.not_true,cond_false,if_neg (fun h=>h h64),zh (by omega),za4 (by omega),za,zbz n 124 (by omega),za]
     have w1:IntKind.wrap .i64 (((p+1:Nat):Int)+((seg 124 (s.drop (p+1))).length:Int))=((p+1+(seg 124 (s.drop (p+1))).length:Nat):Int):=by rw [zi (by omega)]; omega
     simp only [w1]
     by_cases hm:124∈s.drop (p+1)
     · simp only [hm,decide_true,cond_true,if_true]
       rw [zh (by omega)]
       refine (zru n kr (by omega) true kind _ (by omega) (by omega) _ s b10 b11 b12 b13 b14 b15 b20 b21 _ name kind [(e0,e1,e2)] d3 d4 d5 e0 e1 e2 f0 f1 k0 k1 1 k3).trans ?_
       rw [if_pos rfl,zi (by omega)]
       congr 2
       omega
     · simp only [hm,decide_false,cond_false,if_false]
       exact (zru n kr (by omega) false kind _ (by omega) (by omega) _ s b10 b11 b12 b13 b14 b15 b20 b21 _ name kind [(e0,e1,e2)] d3 d4 d5 e0 e1 e2 f0 f1 k0 k1 1 k3)
   · rw [decide_eq_false h64,Bool.not_false,cond_true,if_pos h64]
     rfl
def kindS (kr:KRS X) (s name:List UInt8) (word value:List UInt8) (av aw:Int) (v:List (Bool×Int×Int)) (r0:Int) (tags:List (List UInt8×List UInt8)) (time:Int) (is3:Bool) (p:Nat):Option X:=
 if kindOf word=0 then badK' kr s 16 aw else if kindOf word=2∧value.head? = some 45 then badK' kr s 26 av else rateS kr s name (kindOf word) v r0 tags time is3 p
theorem zrw (hn:20000≤n) (name:List UInt8) (is3:Bool) (value:List UInt8) (av:Int) (word:List UInt8) (aw:Int) (s:List UInt8) (hs:s.length≤10000) (b10:List UInt8) (b11:Int) (b12:List (Bool×Int×Int)) (b13:Int) (b14:List (List UInt8×List UInt8)) (b15 b20 b21:Int) (p:Nat) (hp:p≤s.length) (d0:List UInt8) (d1:Int) (d2:List (Bool×Int×Int)) (d3:Int) (d4:List (List UInt8×List UInt8)) (d5:Int) (e0:Bool) (e1 e2 f0 f1:Int) (k0 k1 k2 k3:Nat) :
 F.zb.C16 n kr name is3 value av word aw s b10 b11 b12 b13 b14 b15 b20 b21 (p:Int) d0 d1 d2 d3 d4 d5 e0 e1 e2 f0 f1 k0 k1 k2 k3=kindS kr s name word value av aw [(e0,e1,e2)] d3 d4 d5 is3 p:=by
 unfold F.zb.C16 kindS
 rw [zrs n (by omega),za]
 unfold sdKindR
 by_cases h0:kindOf word=0
 · rw [if_pos h0,if_pos h0]; rfl
 · have e0':(!((0:Int)==0))=false:=rfl
   rw [if_neg h0,if_neg h0]
   simp only [e0',cond_false]
   by_cases h2:kindOf word=2
   · have e2':(kindOf word==2)=true:=by simp [h2]
     rw [e2',cond_true,zba,za]
     by_cases h45:value.head? = some 45
     · rw [decide_eq_true h45,cond_true,if_pos ⟨h2,h45⟩]; rfl
     · rw [decide_eq_false h45,cond_false,if_neg (fun h=>h45 h.2)]
       exact zrv n kr hn name is3 _ s hs b10 b11 b12 b13 b14 b15 b20 b21 p hp d0 d1 d2 d3 d4 d5 e0 e1 e2 f0 f1 k0 k1 k2 k3
   · have e2':(kindOf word==2)=false:=by simpa using h2
     rw [e2',cond_false,if_neg (fun h=>h2 h.1)]
     exact zrv n kr hn name is3 _ s hs b10 b11 b12 b13 b14 b15 b20 b21 p hp d0 d1 d2 d3 d4 d5 e0 e1 e2 f0 f1 k0 k1 k2 k3
def valueS (kr:KRS X) (s name:List UInt8) (value:List UInt8) (av:Nat) (r0:Int) (tags:List (List UInt8×List UInt8)) (time:Int) (is2:Bool) (p:Nat):Option X:=
 if ¬ (parseR value).2.1.1=0 then badK' kr s 17 av else if is2=false then badK' kr s 11 s.length
 else kindS kr s name (seg 124 (s.drop p)) value av p [((parseR value).1.1,(parseR value).1.2.1,(parseR value).1.2.2.1)] r0 tags time (decide (124∈s.drop p)) (nextP 124 s p)
theorem zrx (hn:200000≤n) (name:List UInt8) (is2:Bool) (value:List UInt8) (hv:value.length≤10000) (av:Nat) (s:List UInt8) (hs:s.length≤10000) (b10:List UInt8) (b11:Int) (b12:List (Bool×Int×Int)) (b13:Int) (b14:List (List UInt8×List UInt8)) (b15 b20 b21:Int) (p:Nat) (hp:p≤s.length) (d0:List UInt8) (d1:Int) (d2:List (Bool×Int×Int)) (d3:Int) (d4:List (List UInt8×List UInt8)) (d5:Int) (k0 k1 k2 k3:Nat) :
 F.zb.C10 n kr name is2 value (av:Int) s b10 b11 b12 b13 b14 b15 b20 b21 (p:Int) d0 d1 d2 d3 d4 d5 k0 k1 k2 k3=valueS kr s name value av d3 d4 d5 is2 p:=by
 unfold F.zb.C10 valueS
 rw [zdo n hn value hv,za]
 by_cases h0:(parseR value).2.1.1=0
 · have e:(!((parseR value).2.1.1==0&&(parseR value).2.1.2.1==0))=false:=by rw [h0,zci h0]; rfl
   rw [e,cond_false,if_neg (fun h=>h h0)]
   cases is2
   · rfl
   · have hsl:=z6 124 (s.drop p)
     have hdl:(s.drop p).length=s.length - p:=by simp
     have hnl:=zg3 (c:=124) hp
     rw [Bool.not_true,cond_false,if_neg (by simp),za4 hp,za,zbz n 124 (by omega),za]
     have w1:IntKind.wrap .i64 ((p:Int)+((seg 124 (s.drop p)).length:Int))=((p+(seg 124 (s.drop p)).length:Nat):Int):=by rw [zi (by omega)]; omega
     simp only [w1]
     by_cases hm:124∈s.drop p
     · have hq:nextP 124 s p=p+(seg 124 (s.drop p)).length+1:=by unfold nextP; rw [if_pos hm]
       simp only [hm,decide_true,cond_true]
       rw [zh (by omega),← hq]
       exact zrw n kr (by omega) name true value _ _ _ s hs b10 b11 b12 b13 b14 b15 b20 b21 _ hnl d0 d1 d2 d3 d4 d5 _ _ _ _ _ k0 k1 k2 k3
     · have hq:nextP 124 s p=p+(seg 124 (s.drop p)).length:=by unfold nextP; rw [if_neg hm]; rfl
       simp only [hm,decide_false,cond_false]
       rw [← hq]
       exact zrw n kr (by omega) name false value _ _ _ s hs b10 b11 b12 b13 b14 b15 b20 b21 _ hnl d0 d1 d2 d3 d4 d5 _ _ _ _ _ k0 k1 k2 k3
 · have e:(!((parseR value).2.1.1==0&&(parseR value).2.1.2.1==0))=true:=by
    have:((parseR value).2.1.1==0)=false:=by simpa using h0
    rw [this]; rfl
   rw [e,cond_true,if_pos h0]
   rfl
def nameS (kr:KRS X) (s name:List UInt8) (r0:Int) (tags:List (List UInt8×List UInt8)) (time:Int) (is1:Bool) (p:Nat):Option X:=
 if ¬ (textF 1 name 1 200).1=0 then badK' kr s 15 0 else if is1=false then badK' kr s 11 s.length
 else valueS kr s name (seg 124 (s.drop p)) p r0 tags time (decide (124∈s.drop p)) (nextP 124 s p)
theorem zv8 (hn:200000≤n) (name:List UInt8) (hnl:name.length≤10000) (is1:Bool) (s:List UInt8) (hs:s.length≤10000) (b10:List UInt8) (b11:Int) (b12:List (Bool×Int×Int)) (b13:Int) (b14:List (List UInt8×List UInt8)) (b15 b20 b21:Int) (p:Nat) (hp:p≤s.length) (d0:List UInt8) (d1:Int) (d2:List (Bool×Int×Int)) (d3:Int) (d4:List (List UInt8×List UInt8)) (d5:Int) (k0 k1 k2 k3:Nat) :
 F.zb.C5 n kr name is1 s b10 b11 b12 b13 b14 b15 b20 b21 (p:Int) d0 d1 d2 d3 d4 d5 k0 k1 k2 k3=nameS kr s name d3 d4 d5 is1 p:=by
 unfold F.zb.C5 nameS
 rw [zbh n 1 name 1 200 (by omega) (by omega),za]
 by_cases h0:(textF 1 name 1 200).1=0
 · have e:(!((textF 1 name 1 200).1==0&&(textF 1 name 1 200).2.1==0))=false:=by rw [h0,zls h0]; rfl
   rw [e,cond_false,if_neg (fun h=>h h0)]
   cases is1
   · rfl
   · have hsl:=z6 124 (s.drop p)
     have hdl:(s.drop p).length=s.length - p:=by simp
     have hnx:=zg3 (c:=124) hp
     rw [Bool.not_true,cond_false,if_neg (by simp),za4 hp,za,zbz n 124 (by omega),za]
     have w1:IntKind.wrap .i64 ((p:Int)+((seg 124 (s.drop p)).length:Int))=((p+(seg 124 (s.drop p)).length:Nat):Int):=by rw [zi (by omega)]; omega
     simp only [w1]
     by_cases hm:124∈s.drop p
     · have hq:nextP 124 s p=p+(seg 124 (s.drop p)).length+1:=by unfold nextP; rw [if_pos hm]
       simp only [hm,decide_true,cond_true]
       rw [zh (by omega),← hq]
       exact zrx n kr hn name true _ (by omega) p s hs b10 b11 b12 b13 b14 b15 b20 b21 _ hnx d0 d1 d2 d3 d4 d5 k0 k1 k2 k3
     · have hq:nextP 124 s p=p+(seg 124 (s.drop p)).length:=by unfold nextP; rw [if_neg hm]; rfl
       simp only [hm,decide_false,cond_false]
       rw [← hq]
       exact zrx n kr hn name false _ (by omega) p s hs b10 b11 b12 b13 b14 b15 b20 b21 _ hnx d0 d1 d2 d3 d4 d5 k0 k1 k2 k3
 · have e:(!((textF 1 name 1 200).1==0&&(textF 1 name 1 200).2.1==0))=true:=by
    have:((textF 1 name 1 200).1==0)=false:=by simpa using h0
    rw [this]; rfl
   rw [e,cond_true,if_pos h0]
   rfl
end
def finK:KRS MetR:=fun _ a b c d e f x y=>some ((a,b,c,d,e,f,()),(x,y,()),())
def sdParse (s:List UInt8):Option MetR:=nameS finK s (seg 58 s) 1000000 [] 0 (decide (58∈s)) (nextP 58 s 0)
theorem zpg (n:Nat) (hn:200000≤n) (s:List UInt8) (hs:s.length≤10000):F.zb n s=sdParse s:=by
 unfold F.zb sdParse
 have h0:sub s (0:Int) (s.length:Int)=some s:=za4 (s:=s) (p:=0) (Nat.zero_le _)
 have hsl:=z6 58 s
 have hnx:=zg3 (c:=58) (s:=s) (p:=0) (Nat.zero_le _)
 rw [h0,za,zbz n 58 (by omega),za]
 have w1:IntKind.wrap .i64 ((0:Int)+((seg 58 s).length:Int))=(((seg 58 s).length:Nat):Int):=by rw [zi (by omega)]; omega
 simp only [w1]
 by_cases hm:58∈s
 · have hq:nextP 58 s 0=(seg 58 s).length+1:=by unfold nextP; rw [List.drop_zero,if_pos hm]; omega
   simp only [hm,decide_true,cond_true]
   rw [zh (by omega),← hq]
   exact zv8 n finK hn _ (by omega) true s hs _ _ _ _ _ _ _ _ _ hnx _ _ _ _ _ _ _ _ _ _
 · have hq:nextP 58 s 0=(seg 58 s).length:=by unfold nextP; rw [List.drop_zero,if_neg hm]; omega
   simp only [hm,decide_false,cond_false]
   rw [← hq]
   exact zv8 n finK hn _ (by omega) false s hs _ _ _ _ _ _ _ _ _ hnx _ _ _ _ _ _ _ _ _ _
end Go.AM
set_option linter.unusedVariables false
set_option linter.unusedSimpArgs false
namespace Go.AM
def rateL (r:Int):List UInt8:=if r=1000000 then [] else [124,64]++(rateText r).1
def lineS (m:MetD):List UInt8:=m.1++[58]++valL m.2.2.1++[124]++wordL m.2.1++rateL m.2.2.2.1
def sdLineR (m:MetD):List UInt8×Int×Unit:=if expM m 1=0 then (lineS m,0,()) else ([],expM m 1,())
theorem zhz {m:MetD} (h:expM m 1=0):∃ nm k d r,m=(nm,k,[d],r,[],0,())∧nameOK nm=true∧1≤k∧k≤4∧decC d=0∧1≤r∧r≤1000000∧(k=2→r=1000000)∧(k=2→d.1=false):=by
 obtain ⟨nm,k,vs,r,ts,t,_⟩:=m
 unfold expM at h
 rw [if_neg (by omega)] at h
 by_cases h0:chkM (nm,k,vs,r,ts,t,())=0
 · rw [if_pos h0] at h
   have hs:saysS (nm,k,vs,r,ts,t,())=true:=by
    cases e:saysM (nm,k,vs,r,ts,t,()) 1
    · rw [e] at h; cases h
    · exact e
   obtain ⟨c1,c2,c3,c4,c5,c6⟩:=za7 h0
   simp only at c1 c2 c3 c4 c5 c6
   unfold saysS at hs
   simp only [Bool.and_eq_true,Bool.not_eq_true',beq_iff_eq,beq_eq_false_iff_ne,Bool.or_eq_true] at hs
   obtain ⟨hb,ht,hk5,hk2⟩:=hs
   unfold bareM at hb
   simp only [Bool.and_eq_true,decide_eq_true_eq] at hb
   obtain ⟨hv,hg⟩:=hb
   have hg':ts=[]:=List.length_eq_zero_iff.1 hg
   subst hg' ht
   match vs,hv with
   | [d],_ =>
    unfold kindB at c2
    unfold valsB at c3
    unfold rateB at c4
    simp only [Bool.and_eq_true,decide_eq_true_eq,List.all_cons,List.all_nil,Bool.and_true,beq_iff_eq,Bool.or_eq_true,Bool.not_eq_true',beq_eq_false_iff_ne] at c2 c3 c4
    refine ⟨nm,k,d,r,rfl,c1,c2.1,by omega,c3.2.2,c4.1,c4.2.1,fun hk => ?_,fun hk => ?_⟩
    · rcases c4.2.2 with h | h
      · exact absurd hk h
      · exact h
    · rcases hk2 with h | h
      · exact absurd hk h
      · exact h
 · rw [if_neg h0] at h; exact absurd h h0
theorem zu9 {k:Int} (h1:1≤k) (h2:k≤4):wordE k=0:=by unfold wordE; rw [if_pos (by omega)]
theorem zl2 (k:Int):(wordL k).length≤2:=by
 unfold wordL
 repeat (first | split | decide)
theorem zgn {r:Int} (h1:1≤r) (h2:r≤1000000):(rateText r).2.1=0∧(rateText r).1.length≤8:=by
 by_cases h:r=1000000
 · subst h; exact ⟨rfl,by decide⟩
 · rw [zcm ⟨h1,by omega⟩]
   obtain ⟨p1,p2,p3,p4⟩:=zc5 (k:=r.toNat) (by omega)
   have:=zc2 (pad6 r.toNat)
   refine ⟨rfl,?_⟩
   simp only [List.length_cons]
   omega
theorem zry (n:Nat) (hn:200000≤n) (m:MetD) (hm:MetOK m):F.zb0 n m=some (sdLineR m):=by
 unfold F.zb0 sdLineR
 have he:F.za2 n (m.1,m.2.1,m.2.2.1,m.2.2.2.1,m.2.2.2.2.1,m.2.2.2.2.2.1,()) (1:Int)=some (expM m 1):=zim n hn m hm 1
 rw [he,za]
 by_cases h0:expM m 1=0
 · rw [if_pos h0]
   obtain ⟨nm,k,d,r,rfl,hnm,k1,k4,hd,r1,r2,hr2,hneg⟩:=zhz h0
   have hdo:DecLOK d:=hm.2.1.2 d (by simp)
   have hn1:=hm.1
   simp only at hn1
   have ht:=zbp hdo hd
   have hw:=zl2 k
   obtain ⟨t1,t2⟩:=zgn r1 r2
   have hE:=zu9 k1 k4
   have hi:idx [d] (0:Int)=some d:=rfl
   rw [h0]
   simp only [O.word,za,hE,hi,zee n hn hdo hd,zfm,t1]
   unfold lineS valL rateL
   simp only [beq_self_eq_true,Bool.not_true,cond_false]
   rw [zd (by rw [zj]; omega),zd (by rw [zj]; simp; omega),zd (by rw [zj]; simp; omega),zd (by rw [zj]; simp; omega)]
   by_cases hr:r=1000000
   · subst hr; simp
   · rw [beq_eq_false_iff_ne.2 hr,cond_false,if_neg hr,zd (by rw [zj]; simp; omega),zd (by rw [zj]; simp; omega),zd (by rw [zj]; simp; omega)]
     simp
 · rw [beq_eq_false_iff_ne.2 h0,if_neg h0]; rfl
theorem zl3 (n:Nat) (hn:200000≤n) (m:MetD) (hm:MetOK m) (h0:expM m 1=0):F.zb8 n m=some (lineS m):=by
 unfold F.zb8
 obtain ⟨nm,k,d,r,rfl,hnm,k1,k4,hd,r1,r2,hr2,hneg⟩:=zhz h0
 have hdo:DecLOK d:=hm.2.1.2 d (by simp)
 have hn1:=hm.1
 simp only at hn1
 have ht:=zbp hdo hd
 have hw:=zl2 k
 obtain ⟨t1,t2⟩:=zgn r1 r2
 have hi:idx [d] (0:Int)=some d:=rfl
 simp only [hi,za,zdq n hn hdo hd,zhy,zfn n (by omega) r ⟨r1,r2⟩]
 unfold lineS valL rateL
 rw [zd (by rw [zj]; omega),zd (by rw [zj]; simp; omega),zd (by rw [zj]; simp; omega),zd (by rw [zj]; simp; omega)]
 by_cases hr:r=1000000
 · subst hr; simp
 · rw [beq_eq_false_iff_ne.2 hr,Bool.not_false,cond_true,if_neg hr,zd (by rw [zj]; simp; omega),zd (by rw [zj]; simp; omega)]
   simp
end Go.AM
set_option linter.unusedVariables false
set_option linter.unusedSimpArgs false
namespace Go.AM
theorem zeg {s:List UInt8} {k:Nat} (h:k<s.length):idx s (k:Int)=some s[k]∧(s.drop k).head? = some s[k]:=by
 refine ⟨zcf h,?_⟩
 rw [List.head?_drop]; simp [h]
theorem zaq (x:UInt8) (c:UInt8):(((x.toNat:Nat):Int)==((c.toNat:Nat):Int))=decide (x=c):=by
 by_cases h:x=c
 · subst h; simp
 · rw [decide_eq_false h,beq_eq_false_iff_ne]
   intro hh
   exact h (za9 (by omega))
end Go.AM
set_option linter.unusedVariables false
set_option linter.unusedSimpArgs false
namespace Go.AM
theorem zrz (n:Nat) (X:Type) (k0:List UInt8→Option X) (kr:Int→Option X) (c:UInt8) (s:List UInt8) (hs:s.length≤1000000):∀ (r:List UInt8) (k m:Nat),s.drop k=r→r.length<m →
 F.zu.L2 n k0 kr m s (c.toNat:Int) (k:Int)=if c∈r then kr ((k+(seg c r).length:Nat):Int) else k0 s:=by
 intro r
 induction r with
 | nil =>
  intro k m hk hm
  have:=zl hk
  obtain ⟨m,rfl⟩:∃ q,m=q+1:=⟨m - 1,by omega⟩
  show F.zu.L2.step n (F.zu.L2 n k0 kr m) k0 kr s _ (k:Int)=_
  unfold F.zu.L2.step
  rw [ze (by omega),if_neg (by simp)]
 | cons x r ih =>
  intro k m hk hm
  obtain ⟨h1,h2,h3⟩:=zk hk
  obtain ⟨m,rfl⟩:∃ q,m=q+1:=⟨m - 1,by omega⟩
  show F.zu.L2.step n (F.zu.L2 n k0 kr m) k0 kr s _ (k:Int)=_
  unfold F.zu.L2.step
  rw [zd (by omega),zm,h2,za,zaq,zaj]
  by_cases hx:x=c
  · rw [decide_eq_true hx,cond_true,if_pos (by simp [hx]),if_pos hx]; rfl
  · rw [decide_eq_false hx,cond_false,if_neg hx,zh (by omega),ih (k+1) m h3 (by simp at hm; omega)]
    have hx':¬ c=x:=fun h=>hx h.symm
    by_cases hm:c∈r
    · rw [if_pos hm,if_pos (by simp [hm]),List.length_cons]
      congr 1
      omega
    · rw [if_neg hm,if_neg (by simp [hm,hx'])]
theorem zb8 (n:Nat) (c:UInt8) (s:List UInt8) (hs:s.length≤1000000) (hn:s.length<n) (p:Nat) (hp:p≤s.length):F.zu n s (p:Int) (c.toNat:Int)=some (((p+(seg c (s.drop p)).length:Nat)):Int):=by
 unfold F.zu
 refine (zrz n Int _ _ c s hs (s.drop p) p n rfl (by simp; omega)).trans ?_
 by_cases h:c∈s.drop p
 · rw [if_pos h]
 · rw [if_neg h,zal h]
   congr 1
   simp; omega
theorem zb9 {s:List UInt8} {c:UInt8} {p:Nat} (hp:p≤s.length):sub s (p:Int) ((p+(seg c (s.drop p)).length:Nat):Int)=some (seg c (s.drop p)):=by
 have hl:=z6 c (s.drop p)
 simp at hl
 rw [zo s p _ (by omega) (by omega),List.drop_take,Nat.add_sub_cancel_left,zed]
theorem zdx {s:List UInt8} {c:UInt8} {p:Nat} (hp:p≤s.length):((((p+(seg c (s.drop p)).length:Nat):Int))==(s.length:Int)) = !decide (c∈s.drop p):=by
 by_cases h:c∈s.drop p
 · have:=zae h
   simp at this
   rw [decide_eq_true h,Bool.not_true,beq_eq_false_iff_ne]
   omega
 · rw [decide_eq_false h,zal h]
   simp; omega
theorem zh0 (n:Nat) (hn:200000≤n) (s:List UInt8) (hs:s.length≤10000):F.zb5 n s=some (nameOK s):=by
 unfold F.zb5 nameOK
 rw [zcj n (by omega) 1 s 1 200 rfl (by omega) (by omega) (by omega) (by omega),za,za6]
end Go.AM
set_option linter.unusedVariables false
set_option linter.unusedSimpArgs false
namespace Go.AM
theorem zr0 (n:Nat) (X:Type) (k0:List UInt8→Int→Int→Option X) (b0 b1:Int):∀ (j m:Nat) (v:List UInt8),v.length+j=6→j<m→F.zak.L17 n k0 m v b0 b1=k0 (v++List.replicate j 48) b0 b1:=by
 intro j
 induction j with
 | zero =>
  intro m v h hm
  obtain ⟨m,rfl⟩:∃ q,m=q+1:=⟨m - 1,by omega⟩
  show F.zak.L17.step n (F.zak.L17 n k0 m) k0 v b0 b1=_
  unfold F.zak.L17.step
  rw [ze (by omega),List.replicate_zero,List.append_nil]
 | succ j ih =>
  intro m v h hm
  obtain ⟨m,rfl⟩:∃ q,m=q+1:=⟨m - 1,by omega⟩
  show F.zak.L17.step n (F.zak.L17 n k0 m) k0 v b0 b1=_
  unfold F.zak.L17.step
  rw [zd (by omega),zd (by rw [zj]; omega),ih m _ (by simp; omega) (by omega),List.append_assoc,List.replicate_succ]
  rfl
theorem zl4 (n:Nat) (hn:100≤n) (s:List UInt8) (hs:s.length≤1000000) (hl:s.length<n):F.zak n s=some (rateR s):=by
 unfold F.zak rateR
 by_cases h1:s=[49]
 · rw [if_pos h1,h1]; rfl
 rw [beq_eq_false_iff_ne.2 h1,cond_false,if_neg h1]
 by_cases h2:s=[]
 · rw [if_pos h2,h2]; rfl
 rw [beq_eq_false_iff_ne.2 h2,cond_false,if_neg h2]
 have hp:0<s.length:=List.length_pos_iff.2 h2
 obtain ⟨i0,g0⟩:=zeg hp
 rw [List.drop_zero] at g0
 have i0':idx s (0:Int)=some s[0]:=i0
 have b0:(((s[0].toNat:Nat):Int)==48)=decide (s[0]=48):=zaq s[0] 48
 rw [i0',za,b0,g0]
 by_cases h3:s[0]=48
 · rw [decide_eq_true h3,Bool.not_true,cond_false,if_neg (by simp [h3])]
   by_cases h4:(s.length:Int)<2
   · have:(s.drop 1).head? = none:=by rw [List.drop_eq_nil_of_le (by omega)]; rfl
     rw [zd h4,this,if_pos (by simp)]; rfl
   rw [ze h4]
   obtain ⟨i1,g1⟩:=zeg (s:=s) (k:=1) (by omega)
   have i1':idx s (1:Int)=some s[1]:=i1
   have b1:(((s[1].toNat:Nat):Int)==46)=decide (s[1]=46):=zaq s[1] 46
   rw [i1',za,b1,g1]
   by_cases h5:s[1]=46
   · rw [decide_eq_true h5,Bool.not_true,cond_false,if_neg (by simp [h5])]
     have hdl:(s.drop 2).length+2=s.length:=by simp; omega
     have hsub:sub s (2:Int) (s.length:Int)=some (s.drop 2):=za4 (s:=s) (p:=2) (by omega)
     rw [hsub,za]
     generalize s.drop 2=d at hdl ⊢
     by_cases h6:d=[]
     · rw [if_pos h6,h6]; rfl
     rw [beq_eq_false_iff_ne.2 h6,cond_false,if_neg h6,zij n hn 4 d (by omega) (by omega),za,zg4]
     by_cases h7:0≤badK isDig 0 d
     · rw [zd (by omega),if_pos h7]
       have:=zoa isDig 0 d
       rw [zi (by omega)]
       rfl
     rw [ze (by omega),if_neg h7]
     have hd:=zbb h7
     by_cases h8:6<d.length
     · rw [zd (by omega),if_pos h8]; rfl
     rw [ze (by omega),if_neg h8,zr0 n _ _ 0 0 (6 - d.length) n d (by omega) (by omega)]
     have hD:Digs (d++List.replicate (6 - d.length) 48):=zu.2 ⟨hd,zbg _⟩
     have hv:=zbw hD
     have hlen:(d++List.replicate (6 - d.length) (48:UInt8)).length=6:=by simp; omega
     rw [hlen] at hv
     rw [zju n _ (by omega) (by omega) hD,za,if_pos (by omega),zy] at *
     have hpp:0<10 ^ (6 - d.length):=Nat.pow_pos (by omega)
     by_cases h9:val d=0
     · rw [if_pos h9,h9,Nat.zero_mul]; rfl
     · have:=Nat.mul_pos (Nat.pos_of_ne_zero h9) hpp
       rw [if_neg h9,beq_eq_false_iff_ne.2 (by simp only; omega)]
       rfl
   · rw [decide_eq_false h5,if_pos (by simp [h5])]; rfl
 · rw [decide_eq_false h3,if_pos (by simp [h3])]; rfl
end Go.AM
set_option linter.unusedVariables false
set_option linter.unusedSimpArgs false
namespace Go.AM
section
variable {X:Type} (n:Nat) (kr:KRS X)
theorem zzh (e:Nat) (r:Int) (s:List UInt8) (b10:List UInt8) (b11:Int) (b12:List DecL) (b13:Int) (b14:List TagL) (b15 b20 b21:Int) (e0:Bool) (e1 e2:Int) (d0:List UInt8) (d1:Int) (d2:List DecL) (d3:Int) (d4:List TagL) (d5:Int) (k0 k1 k2 k3:Nat) :
 F.zr.C27 n (kr s) s (e:Int) r b10 b11 b12 b13 b14 b15 b20 b21 e0 e1 e2 d0 d1 d2 d3 d4 d5 k0 k1 k2 k3=if e<s.length then badK' kr s 11 (e:Int) else kr s d0 d1 d2 r d4 d5 0 0:=by
 unfold F.zr.C27
 by_cases h:e<s.length
 · rw [zd (by omega),if_pos h]; rfl
 · rw [ze (by omega),if_neg h]
theorem zzi (hn : 20000 ≤ n) (a:Nat) (p:Nat) (kind:Int) (s:List UInt8) (ha:a≤s.length) (hs:s.length≤10000) (hp:p≤s.length) (b10:List UInt8) (b11:Int) (b12:List DecL) (b13:Int) (b14:List TagL) (b15 b20 b21:Int) (e0:Bool) (e1 e2:Int) (k0 k1:Nat) :
 F.zr.C18 n (kr s) s (a:Int) ((p+(seg 124 (s.drop p)).length:Nat):Int) kind b10 b11 b12 b13 b14 b15 b20 b21 e0 e1 e2 k0 k1=rateS kr s (s.take a) kind [(e0,e1,e2)] 1000000 [] 0 (decide (124∈s.drop p)) (nextP 124 s p):=by
 unfold F.zr.C18 rateS
 have hsub:sub s (0:Int) (a:Int)=some (s.take a):=by
  have:=zo s 0 a (by omega) ha
  rw [List.drop_zero] at this
  exact this
 rw [hsub,za,zdx hp]
 by_cases hm:124∈s.drop p
 · have hq : nextP 124 s p=p+(seg 124 (s.drop p)).length+1:=by unfold nextP; rw [if_pos hm]
   have hlt:=zae hm
   simp at hlt
   rw [decide_eq_true hm,Bool.not_true,cond_false,if_neg (by simp),hq,zh (by omega)]
   generalize hQ:p+(seg 124 (s.drop p)).length=q at *
   by_cases h1:q+1=s.length
   · have e1':((((q+1:Nat)):Int)==(s.length:Int))=true:=by simp; omega
     have:¬ (s.drop (q+1)).head? = some 64:=by rw [List.drop_eq_nil_of_le (by omega)]; simp
     rw [e1',cond_true,if_pos this]; rfl
   · have e1' : ((((q+1:Nat)):Int)==(s.length:Int))=false:=by rw [beq_eq_false_iff_ne]; omega
     obtain ⟨i1,g1⟩:=zeg (s:=s) (k:=q+1) (by omega)
     have b1:(((s[q+1].toNat:Nat):Int)==64)=decide (s[q+1]=64):=zaq _ 64
     rw [e1',cond_false,i1,za,b1,g1]
     by_cases h2:s[q+1]=64
     · rw [decide_eq_true h2,Bool.not_true,cond_false,if_neg (by simp [h2])]
       have w2:IntKind.wrap .i64 ((q:Int)+2)=((q+1+1:Nat):Int):=by rw [zi (by omega)]; omega
       have hsl:=z6 124 (s.drop (q+1+1))
       simp at hsl
       have fe:=zb8 n 124 s (by omega) (by omega) (q+1+1) (by omega)
       rw [w2,show (124:Int)=((124:UInt8).toNat:Int) from rfl,fe,za,zb9 (by omega),za,zl4 n (by omega) _ (by omega) (by omega),za]
       have r26 : ∀ (t : Bool) (r:Int) (k2 k3:Nat),F.zr.C26 n
        (fun e44_b0_0 e44_b0_1 e44_b0_2 e44_b0_3 e44_b0_4 e44_b0_5 e44_b1_0 e44_b1_1 =>
         kr s e44_b0_0 e44_b0_1 e44_b0_2 e44_b0_3 e44_b0_4 e44_b0_5 e44_b1_0 e44_b1_1)
        (fun e45_0 e45_11 e45_12 e45_b0_0 e45_b0_1 e45_b0_2 e45_b0_3 e45_b0_4 e45_b0_5 e45_b1_0 e45_b1_1 e45_b2_0 e45_b2_1 e45_b2_2 e45_b3_0 e45_b3_1 e45_b3_2 e45_b3_3 e45_b3_4 e45_b3_5 e45_k0 e45_k1 e45_k2 e45_k3 =>
         F.zr.C27 n
          (fun e46_b0_0 e46_b0_1 e46_b0_2 e46_b0_3 e46_b0_4 e46_b0_5 e46_b1_0 e46_b1_1 =>
           kr s e46_b0_0 e46_b0_1 e46_b0_2 e46_b0_3 e46_b0_4 e46_b0_5 e46_b1_0 e46_b1_1) e45_0 e45_11 e45_12 e45_b0_0 e45_b0_1 e45_b0_2 e45_b0_3 e45_b0_4 e45_b0_5 e45_b1_0 e45_b1_1 e45_b2_0 e45_b2_1 e45_b2_2 e45_b3_0 e45_b3_1 e45_b3_2 e45_b3_3 e45_b3_4 e45_b3_5 e45_k0 e45_k1 e45_k2 e45_k3) s (q:Int) ((q+1+1+(seg 124 (s.drop (q+1+1))).length:Nat):Int) r t b10 b11 b12 b13 b14 b15 b20 b21 e0 e1 e2 (s.take a) kind ([(e0,e1,e2)]) (1000000:Int) [] (0:Int) k0 k1 k2 k3
        = if t=true then badK' kr s 18 ((q+1+1:Nat):Int) else if 124∈s.drop (q+1+1) then badK' kr s 11 ((q+1+1+(seg 124 (s.drop (q+1+1))).length:Nat):Int) else kr s (s.take a) kind [(e0,e1,e2)] r [] 0 0 0:=by
        intro t r k2 k3
        unfold F.zr.C26
        cases t
        · rw [cond_false,if_neg (by simp)]
          refine (zzh n kr _ r s b10 b11 b12 b13 b14 b15 b20 b21 e0 e1 e2 (s.take a) kind [(e0,e1,e2)] 1000000 [] 0 k0 k1 k2 k3).trans ?_
          by_cases hm2:124∈s.drop (q+1+1)
          · have:=zae hm2
            simp at this
            rw [if_pos hm2,if_pos (by omega)]
          · rw [if_neg hm2,if_neg]
            rw [zal hm2]
            simp; omega
        · rw [cond_true,if_pos rfl,w2]; rfl
       by_cases h3:(rateR (seg 124 (s.drop (q+1+1)))).2.1.1=0
       · have e3:((rateR (seg 124 (s.drop (q+1+1)))).2.1.1==0)=true:=by simp [h3]
         rw [e3,Bool.not_true,cond_false]
         by_cases hk:kind=2
         · have ek:(kind==2)=true:=by simp [hk]
           rw [ek,cond_true]
           refine (r26 _ _ _ _).trans ?_
           by_cases h4:(rateR (seg 124 (s.drop (q+1+1)))).1=1000000
           · rw [if_neg (show ¬ (¬ (rateR (seg 124 (s.drop (q+1+1)))).2.1.1=0∨(kind=2∧¬ (rateR (seg 124 (s.drop (q+1+1)))).1=1000000)) from by rintro (h | h); exact h h3; exact h.2 h4),h4,if_neg (by simp)]
           · rw [if_pos (by simpa using h4),if_pos (Or.inr ⟨hk,h4⟩)]
         · have ek:(kind==2)=false:=by simpa using hk
           rw [ek,cond_false]
           refine (r26 _ _ _ _).trans ?_
           rw [if_neg (show ¬ (¬ (rateR (seg 124 (s.drop (q+1+1)))).2.1.1=0∨(kind=2∧¬ (rateR (seg 124 (s.drop (q+1+1)))).1=1000000)) from by rintro (h | h); exact h h3; exact hk h.1),if_neg (by simp)]
       · have e3:((rateR (seg 124 (s.drop (q+1+1)))).2.1.1==0)=false:=by simpa using h3
         rw [e3,Bool.not_false,cond_true]
         refine (r26 _ _ _ _).trans ?_
         rw [if_pos rfl,if_pos (Or.inl h3)]
     · rw [decide_eq_false h2,Bool.not_false,cond_true,if_pos (by simp [h2])]; rfl
 · rw [decide_eq_false hm,Bool.not_false,cond_true,if_pos rfl]
end
theorem zj7 (n:Nat) (hn:200000≤n) (s:List UInt8) (hs:s.length≤10000):F.zr n s=sdParse s:=by
 unfold F.zr sdParse nameS
 have f0:F.zu n s (0:Int) (58:Int)=some (((seg 58 s).length:Nat):Int):=by
  have:=zb8 n 58 s (by omega) (by omega) 0 (by omega)
  rw [List.drop_zero,Nat.zero_add] at this
  exact this
 have hl:=z6 58 s
 have s0:sub s (0:Int) (((seg 58 s).length:Nat):Int)=some (seg 58 s):=by
  have:=zb9 (s:=s) (c:=58) (p:=0) (by omega)
  rw [List.drop_zero,Nat.zero_add] at this
  exact this
 have e0:((((seg 58 s).length:Nat):Int)==(s.length:Int)) = !decide (58∈s):=by
  have:=zdx (s:=s) (c:=58) (p:=0) (by omega)
  rw [List.drop_zero,Nat.zero_add] at this
  exact this
 rw [f0,za,s0,za,zh0 n hn _ (by omega),za,e0]
 unfold nameOK
 by_cases h1:(textF 1 (seg 58 s) 1 200).1=0
 · have e1 : ((textF 1 (seg 58 s) 1 200).1==0)=true:=by simp [h1]
   rw [e1,Bool.not_true,cond_false,if_neg (fun h=>h h1)]
   by_cases hm:58∈s
   · have hlt := zae hm
     have hq:nextP 58 s 0=(seg 58 s).length+1:=by unfold nextP; rw [List.drop_zero,if_pos hm]; omega
     have htk:s.take (seg 58 s).length=seg 58 s:=zed 58 s
     rw [decide_eq_true hm,Bool.not_true,cond_false,if_neg (by simp),hq,zh (by omega)]
     unfold valueS
     generalize hA:(seg 58 s).length=a at *
     have hsl:=z6 124 (s.drop (a+1))
     simp at hsl
     rw [show (124:Int)=((124:UInt8).toNat:Int) from rfl,zb8 n 124 s (by omega) (by omega) (a+1) (by omega),za,zb9 (by omega),za,zdp n hn _ (by omega),za,zdx (by omega)]
     by_cases h2:(parseR (seg 124 (s.drop (a+1)))).2.1.1=0
     · have e2 : ((parseR (seg 124 (s.drop (a+1)))).2.1.1==0)=true:=by simp [h2]
       rw [e2,Bool.not_true,cond_false,if_neg (fun h=>h h2)]
       by_cases hm2:124∈s.drop (a+1)
       · have hlt2:=zae hm2
         simp at hlt2
         have hq2:nextP 124 s (a+1)=a+1+(seg 124 (s.drop (a+1))).length+1:=by unfold nextP; rw [if_pos hm2]
         rw [decide_eq_true hm2,Bool.not_true,cond_false,if_neg (by simp),hq2,zh (by omega)]
         unfold kindS
         generalize hB:a+1+(seg 124 (s.drop (a+1))).length=b at *
         have hsl3:=z6 124 (s.drop (b+1))
         simp at hsl3
         rw [zb8 n 124 s (by omega) (by omega) (b+1) (by omega),za,zb9 (by omega),za,zl1 n (by omega),za]
         by_cases h3:kindOf (seg 124 (s.drop (b+1)))=0
         · rw [h3,if_pos rfl]; rfl
         · rw [beq_eq_false_iff_ne.2 h3,cond_false,if_neg h3]
           have fin:=zzi n finK (by omega) a (b+1) (kindOf (seg 124 (s.drop (b+1)))) s (by omega) hs (by omega) [] 0 [] 0 [] 0 0 0 (parseR (seg 124 (s.drop (a+1)))).1.1 (parseR (seg 124 (s.drop (a+1)))).1.2.1 (parseR (seg 124 (s.drop (a+1)))).1.2.2.1 0 0
           rw [htk] at fin
           by_cases h4:kindOf (seg 124 (s.drop (b+1)))=2
           · have e4:(kindOf (seg 124 (s.drop (b+1)))==2)=true:=by simp [h4]
             obtain ⟨i1,g1⟩:=zeg (s:=s) (k:=a+1) (by omega)
             have b1:(((s[a+1].toNat:Nat):Int)==45)=decide (s[a+1]=45):=zaq _ 45
             have hv:(seg 124 (s.drop (a+1))).head? = some s[a+1]:=by
              have hd:s.drop (a+1)=s[a+1]::s.drop (a+1+1):=List.drop_eq_getElem_cons (by omega)
              have hne:¬ s[a+1]=124:=by
               intro hh
               rw [hd,zaj,if_pos hh] at h2
               exact absurd h2 (by decide)
              rw [hd,zaj,if_neg hne]; rfl
             rw [e4,cond_true,i1,za,b1,hv]
             by_cases h5:s[a+1]=45
             · rw [decide_eq_true h5,cond_true,if_pos ⟨h4,by rw [h5]⟩]; rfl
             · rw [decide_eq_false h5,cond_false,if_neg (fun h=>h5 (Option.some.inj h.2))]
               exact fin
           · have e4:(kindOf (seg 124 (s.drop (b+1)))==2)=false:=by simpa using h4
             rw [e4,cond_false,if_neg (fun h=>h4 h.1)]
             exact fin
       · rw [decide_eq_false hm2,Bool.not_false,cond_true,if_pos rfl]
         have:a+1+(seg 124 (s.drop (a+1))).length=s.length:=by rw [zal hm2]; simp; omega
         rw [this]; rfl
     · have e2:((parseR (seg 124 (s.drop (a+1)))).2.1.1==0)=false:=by simpa using h2
       rw [e2,if_pos h2]; rfl
   · rw [decide_eq_false hm,Bool.not_false,cond_true,if_pos rfl,zal hm]; rfl
 · have e1:((textF 1 (seg 58 s) 1 200).1==0)=false:=by simpa using h1
   rw [e1,if_pos h1]; rfl
end Go.AM
set_option linter.unusedVariables false
set_option linter.unusedSimpArgs false
namespace Go.AM
theorem zdy {c:UInt8} {a:List UInt8} (h:c∉a) (t:List UInt8):seg c (a++c::t)=a:=by
 induction a with
 | nil=>show seg c (c::t)=[]; rw [zaj,if_pos rfl]
 | cons b a ih =>
  show seg c (b::(a++c::t))=_
  rw [zaj,if_neg (fun hh=>h (by simp [hh])),ih (fun hh=>h (by simp [hh]))]
theorem zbi {c:UInt8} {s:List UInt8} (h:c∈s):s=seg c s++c::s.drop ((seg c s).length+1):=by
 induction s with
 | nil=>simp at h
 | cons b s ih =>
  rw [zaj]
  by_cases hb:b=c
  · rw [if_pos hb,hb]; rfl
  · rw [if_neg hb]
    have hm:c∈s:=by
     rcases List.mem_cons.1 h with h | h
     · exact absurd h.symm hb
     · exact h
    have:=ih hm
    simp only [List.length_cons,List.drop_succ_cons,List.cons_append]
    rw [← this]
theorem zg5 (c:UInt8) (s:List UInt8):c∉seg c s:=by
 induction s with
 | nil=>simp [seg]
 | cons b s ih =>
  rw [zaj]
  by_cases hb:b=c
  · rw [if_pos hb]; simp
  · rw [if_neg hb]
    intro hm
    rcases List.mem_cons.1 hm with h | h
    · exact hb h.symm
    · exact ih h
theorem zfo {c:UInt8} {s a t:List UInt8} {p:Nat} (hs:s.drop p=a++c::t) (h:c∉a):nextP c s p=p+a.length+1∧s.drop (p+a.length+1)=t:=by
 constructor
 · unfold nextP
   rw [hs,zdy h,if_pos (by simp)]
 · rw [Nat.add_assoc,← List.drop_drop,hs]
   simp
theorem zr1 {c:UInt8} {s a:List UInt8} {p:Nat} (hs:s.drop p=a) (h:c∉a):nextP c s p=p+a.length:=by
 unfold nextP
 rw [hs,if_neg h,zal h]; omega
theorem zr2 {s:List UInt8} (h:nameOK s=true):(58:UInt8)∉s:=by
 rw [zfl] at h
 simp only [Bool.and_eq_true,List.all_eq_true] at h
 intro hm
 have:=h.1 58 hm
 revert this
 decide
abbrev badM (c a:Int):MetR:=(([],0,[],0,[],0,()),(c,a,()),())
end Go.AM
set_option linter.unusedVariables false
set_option linter.unusedSimpArgs false
namespace Go.AM
theorem znh (s:List UInt8):((parseR s).2.1.1≠0∧(parseR s).1=(false,0,0,())∧0≤(parseR s).2.1.2.1∧(parseR s).2.1.2.1≤s.length) ∨
 (∃ (neg:Bool) (c:Nat) (e:Int),parseR s=((neg,(c:Int),e,()),(0,0,()),())∧c<two64∧(-9223372036854775808≤e∧e≤9223372036854775807)∧checkR neg c e=0):=by
 unfold parseR
 by_cases h:(lookR s).1=0
 · rw [if_pos h]
   have hD:Digs (aheadD s++behindD s):=zu.2 ⟨zbs _,zgl s⟩
   generalize aheadD s++behindD s=d at hD
   generalize (-((behindD s).length:Int))=E
   generalize negD s=neg
   by_cases hv:val d=0
   · refine Or.inr ⟨false,0,0,?_,by decide,by omega,?_⟩
     · have:valR neg d E=zeroD:=by unfold valR; rw [if_pos hv]
       rw [this]; rfl
     · have d0:Lib.decDigits 0=[48]:=zb6 (by omega)
       unfold checkR
       rw [d0]; rfl
   · obtain ⟨c0,z,h1,h2⟩:=zch (val d) (by omega)
     rw [zah hD h2 h1]
     generalize E+(z:Int)=Y
     by_cases hY:Y < -18
     · refine Or.inl ?_
       have:normR neg c0 Y=((false,0,0,()),10,()):=by unfold normR; rw [if_pos hY]
       rw [this]
       exact ⟨by decide,rfl,by decide,by show (0:Int)≤s.length; omega⟩
     · by_cases hf:c0*10 ^ (Y - 18).toNat<two64
       · have e1:normR neg c0 Y=((neg,((c0*10 ^ (Y - 18).toNat:Nat):Int),(if Y≤18 then Y else 18),()),0,()):=by unfold normR; rw [if_neg hY,if_pos hf]
         rw [e1]
         have hE : -18≤(if Y≤18 then Y else 18)∧(if Y≤18 then Y else 18)≤18:=by split<;>omega
         refine Or.inr ⟨neg,c0*10 ^ (Y - 18).toNat,(if Y≤18 then Y else 18),rfl,hf,by omega,?_⟩
         unfold checkR
         rw [if_neg (by omega),zah (zax _) h2 (zbx _)]
         have e2:(if Y≤18 then Y else 18)+(((Y - 18).toNat:Nat):Int)=Y:=by split<;>omega
         rw [e2,e1,if_pos ⟨rfl,rfl⟩]
       · refine Or.inl ?_
         have:normR neg c0 Y=((false,0,0,()),10,()):=by unfold normR; rw [if_neg hY,if_neg hf]
         rw [this]
         exact ⟨by decide,rfl,by decide,by show (0:Int)≤s.length; omega⟩
 · rw [if_neg h]
   refine Or.inl ⟨h,rfl,?_⟩
   show 0≤(lookR s).2.1∧(lookR s).2.1≤s.length
   have endle:∀ (r:Prop) [Decidable r] (a l:Nat),a≤l→0≤(endR r a l).2.1∧(endR r a l).2.1≤(l:Int):=by
    intro r _ a l hl
    unfold endR
    split
    · show (0:Int)≤0∧(0:Int)≤l; omega
    · split
      · show (0:Int)≤a∧(a:Int)≤l; omega
      · show (0:Int)≤a∧(a:Int)≤l; omega
   unfold lookR lookQ
   split
   · rename_i hp
     exact endle _ _ _ (zzk hp.2)
   · exact endle _ _ _ (zo6 (zo5 s))
end Go.AM
set_option linter.unusedVariables false
set_option linter.unusedSimpArgs false
namespace Go.AM
theorem zph {w:List UInt8} (h:¬ kindOf w=0):w=wordL (kindOf w)∧1≤kindOf w∧kindOf w≤4∧(124:UInt8)∉w:=by
 unfold kindOf at h ⊢
 by_cases h1:w=[99]
 · subst h1; decide
 rw [if_neg h1] at h ⊢
 by_cases h2:w=[103]
 · subst h2; decide
 rw [if_neg h2] at h ⊢
 by_cases h3:w=[109,115]
 · subst h3; decide
 rw [if_neg h3] at h ⊢
 by_cases h4:w=[104]
 · subst h4; decide
 rw [if_neg h4] at h
 exact absurd rfl h
section
variable {X:Type} (kr:KRS X)
theorem zl5 {name value word:List UInt8} {d:DecL} (hn:nameOK name=true) (hv:(124:UInt8)∉value) (hp:parseR value=((d.1,d.2.1,d.2.2,()),(0,0,()),())) (hk:¬ kindOf word=0) (hg:¬ (kindOf word=2∧value.head? = some 45))
 {s rest:List UInt8} (hs:s=name++58::(value++124::(word++rest))) (hr:rest=[]∨rest.head? = some 124) :
 nameS kr s (seg 58 s) 1000000 [] 0 (decide (58∈s)) (nextP 58 s 0)=rateS kr s name (kindOf word) [d] 1000000 [] 0 (decide (rest.head? = some 124)) (name.length+1+value.length+1+word.length+(if rest.head? = some 124 then 1 else 0)):=by
 have hnf:=zr2 hn
 obtain ⟨hw1,hw2,hw3,hw4⟩:=zph hk
 have h58:(58:UInt8)∈s:=by rw [hs]; simp
 have hseg:seg 58 s=name:=by rw [hs]; exact zdy hnf _
 have hd0:s.drop 0=name++58::(value++124::(word++rest)):=hs
 obtain ⟨n1,n2⟩:=zfo hd0 hnf
 rw [Nat.zero_add] at n1 n2
 have hm1:(124:UInt8)∈s.drop (name.length+1):=by rw [n2]; simp
 obtain ⟨m1,m2⟩:=zfo n2 hv
 have hsv:seg 124 (s.drop (name.length+1))=value:=by rw [n2]; exact zdy hv _
 have hname:(textF 1 name 1 200).1=0:=by unfold nameOK at hn; simpa using hn
 unfold nameS
 rw [hseg,if_neg (fun h=>h hname),decide_eq_true h58,if_neg (by simp),n1,hsv,m1,decide_eq_true hm1]
 unfold valueS
 rw [hp,if_neg (by simp),if_neg (by simp)]
 unfold kindS
 rcases hr with hr | hr
 · subst hr
   rw [List.append_nil] at m2
   have hsw:seg 124 (s.drop (name.length+1+value.length+1))=word:=by rw [m2]; exact zal hw4
   have hm2:¬ (124:UInt8)∈s.drop (name.length+1+value.length+1):=by rw [m2]; exact hw4
   rw [hsw,if_neg hk,if_neg hg,decide_eq_false hm2,zr1 m2 hw4]
   rfl
 · obtain ⟨t,ht⟩:∃ t,rest=124::t:=by
    cases rest with
    | nil=>simp at hr
    | cons b t=>exact ⟨t,by simp at hr; rw [hr]⟩
   subst ht
   have hsw:seg 124 (s.drop (name.length+1+value.length+1))=word:=by rw [m2]; exact zdy hw4 _
   have hm2:(124:UInt8)∈s.drop (name.length+1+value.length+1):=by rw [m2]; simp
   rw [hsw,if_neg hk,if_neg hg,decide_eq_true hm2,(zfo m2 hw4).1]
   rfl
theorem zyr {name value word t:List UInt8} {s:List UInt8} (hs:s=name++58::(value++124::(word++124::t))):s.drop (name.length+1+value.length+1+word.length+1)=t∧s.length=name.length+1+value.length+1+word.length+1+t.length:=by
 subst hs
 refine ⟨?_,by simp; omega⟩
 rw [show name.length+1+value.length+1+word.length+1=name.length+(1+(value.length+(1+(word.length+1)))) from by omega,List.drop_append,List.drop_eq_nil_of_le (by omega),List.nil_append]
 rw [show name.length+(1+(value.length+(1+(word.length+1)))) - name.length=(value.length+(1+(word.length+1)))+1 from by omega,List.drop_succ_cons,List.drop_append,List.drop_eq_nil_of_le (by omega),List.nil_append,
  show value.length+(1+(word.length+1)) - value.length=word.length+1+1 from by omega,List.drop_succ_cons,List.drop_append,List.drop_eq_nil_of_le (by omega),List.nil_append,show word.length+1 - word.length=0+1 from by omega,List.drop_succ_cons,List.drop_zero]
end
abbrev OkR (name:List UInt8) (k:Int) (d:DecL) (r:Int):MetR:=((name,k,[d],r,[],0,()),(0,0,()),())
theorem zva {name value word:List UInt8} {d:DecL} (hn:nameOK name=true) (hv:(124:UInt8)∉value) (hp:parseR value=((d.1,d.2.1,d.2.2,()),(0,0,()),())) (hk:¬ kindOf word=0) (hg:¬ (kindOf word=2∧value.head? = some 45)) :
 sdParse (name++58::(value++124::word))=some (OkR name (kindOf word) d 1000000):=by
 unfold sdParse
 have:=zl5 finK hn hv hp hk hg (s:=name++58::(value++124::word)) (rest:=[]) (by rw [List.append_nil]) (Or.inl rfl)
 rw [this]
 rfl
theorem zys {name value word:List UInt8} {d:DecL} (hn:nameOK name=true) (hv:(124:UInt8)∉value) (hp:parseR value=((d.1,d.2.1,d.2.2,()),(0,0,()),())) (hk:¬ kindOf word=0) (hg:¬ (kindOf word=2∧value.head? = some 45)) (t:List UInt8) :
 sdParse (name++58::(value++124::(word++124::t)))=some (if ¬ t.head? = some 64 then badM 11 ((name.length+1+value.length+1+word.length+1:Nat):Int)
  else if ¬ (rateR (seg 124 (t.drop 1))).2.1.1=0∨(kindOf word=2∧¬ (rateR (seg 124 (t.drop 1))).1=1000000) then badM 18 ((name.length+1+value.length+1+word.length+1+1:Nat):Int)
  else if 124∈t.drop 1 then badM 11 ((name.length+1+value.length+1+word.length+1+1+(seg 124 (t.drop 1)).length:Nat):Int)
  else OkR name (kindOf word) d (rateR (seg 124 (t.drop 1))).1):=by
 unfold sdParse
 generalize hs:name++58::(value++124::(word++124::t))=s
 have:=zl5 finK hn hv hp hk hg (s:=s) (rest:=124::t) hs.symm (Or.inr rfl)
 have hd:=(zyr hs.symm).1
 rw [this]
 unfold rateS
 have h1:(if (124::t:List UInt8).head? = some 124 then 1 else 0)=1:=rfl
 have h2:decide ((124::t:List UInt8).head? = some 124)=true:=rfl
 have hd1:s.drop (name.length+1+value.length+1+word.length+1+1)=t.drop 1:=by rw [← List.drop_drop,hd]
 rw [h1,h2,if_neg (by simp),hd,hd1]
 repeat' split
 all_goals first | rfl | (exfalso; simp_all)
theorem zl6 (s:List UInt8):(∃ c a:Int,sdParse s=some (badM c a)∧c≠0∧0≤a∧a≤s.length) ∨
 (∃ name value word tail d r,s=name++58::(value++124::(word++tail))∧nameOK name=true∧(124:UInt8)∉value∧parseR value=((d.1,d.2.1,d.2.2,()),(0,0,()),())∧¬ kindOf word=0∧¬ (kindOf word=2∧value.head? = some 45) ∧
  (tail=[]∧r=1000000∨∃ rt,tail=124::64::rt∧(rateR rt).2.1.1=0∧(rateR rt).1=r∧(kindOf word=2→r=1000000)∧(124:UInt8)∉rt)∧sdParse s=some (OkR name (kindOf word) d r)):=by
 by_cases hn:nameOK (seg 58 s)=true
 · by_cases h58:(58:UInt8)∈s
   · have hsp:=zbi h58
     have hlt:=zae h58
     generalize hname:seg 58 s=name at *
     generalize ht:s.drop (name.length+1)=t at *
     have htl:t.length+(name.length+1)=s.length:=by rw [← ht]; simp; omega
     have hn0:¬ ¬ (textF 1 name 1 200).1=0:=by unfold nameOK at hn; simpa using hn
     have hq:nextP 58 s 0=name.length+1:=by unfold nextP; rw [List.drop_zero,if_pos h58,hname]; omega
     have e1:sdParse s=valueS finK s name (seg 124 t) (name.length+1) 1000000 [] 0 (decide (124∈t)) (nextP 124 s (name.length+1)):=by
      unfold sdParse nameS
      rw [hname,if_neg hn0,decide_eq_true h58,if_neg (by simp),hq,ht]
     by_cases hv:(parseR (seg 124 t)).2.1.1=0
     · by_cases hb:(124:UInt8)∈t
       · have hsp2:=zbi hb
         have hlt2:=zae hb
         have hfree:=zg5 124 t
         generalize hvalue:seg 124 t=value at *
         generalize ht2:t.drop (value.length+1)=t2 at *
         have hd2:s.drop (name.length+1+value.length+1)=t2:=by rw [Nat.add_assoc (name.length+1),← List.drop_drop,ht,ht2]
         have htl2:t2.length+(value.length+1)=t.length:=by rw [← ht2]; simp; omega
         have hq2:nextP 124 s (name.length+1)=name.length+1+value.length+1:=by unfold nextP; rw [ht,if_pos hb,hvalue]
         have e2:sdParse s=kindS finK s name (seg 124 t2) value (name.length+1:Nat) (name.length+1+value.length+1:Nat) [((parseR value).1.1,(parseR value).1.2.1,(parseR value).1.2.2.1)] 1000000 [] 0 (decide (124∈t2)) (nextP 124 s (name.length+1+value.length+1)):=by
          rw [e1]
          unfold valueS
          rw [if_neg (fun h=>h hv),decide_eq_true hb,if_neg (by simp),hq2,hd2]
         by_cases hk:kindOf (seg 124 t2)=0
         · left
           refine ⟨16,((name.length+1+value.length+1:Nat):Int),?_,by decide,by omega,by omega⟩
           rw [e2]
           unfold kindS
           rw [if_pos hk]; rfl
         by_cases hg:kindOf (seg 124 t2)=2∧value.head? = some 45
         · left
           refine ⟨26,((name.length+1:Nat):Int),?_,by decide,by omega,by omega⟩
           rw [e2]
           unfold kindS
           rw [if_neg hk,if_pos hg]; rfl
         have hat:=zci hv
         have hp:parseR value=(((((parseR value).1.1,(parseR value).1.2.1,(parseR value).1.2.2.1):DecL).1,(parseR value).1.2.1,(parseR value).1.2.2.1,()),(0,0,()),()):=by
          generalize parseR value=z at hv hat
          obtain ⟨⟨a,b,c,_⟩,⟨x,y,_⟩,_⟩:=z
          simp only at hv hat
          subst hv hat
          rfl
         by_cases hb2:(124:UInt8)∈t2
         · have hsp3:=zbi hb2
           generalize hword:seg 124 t2=word at *
           generalize ht3:t2.drop (word.length+1)=t3 at *
           have hlt3:word.length+1+t3.length=t2.length:=by
            have:=congrArg List.length hsp3
            simp at this
            omega
           have hs:s=name++58::(value++124::(word++124::t3)):=by rw [← hsp3,← hsp2,← hsp]
           have L:=zys hn hfree hp hk hg t3
           rw [← hs] at L
           by_cases c1:t3.head? = some 64
           · rw [if_neg (fun h=>h c1)] at L
             obtain ⟨t4,ht4⟩:∃ t4,t3=64::t4:=by
              cases t3 with
              | nil=>simp at c1
              | cons b t=>exact ⟨t,by simp at c1; rw [c1]⟩
             subst ht4
             simp only [List.drop_succ_cons,List.drop_zero,List.length_cons] at L hlt3
             by_cases c2:¬ (rateR (seg 124 t4)).2.1.1=0∨(kindOf word=2∧¬ (rateR (seg 124 t4)).1=1000000)
             · rw [if_pos c2] at L
               exact Or.inl ⟨18,_,L,by decide,by omega,by omega⟩
             rw [if_neg c2] at L
             by_cases c3:(124:UInt8)∈t4
             · rw [if_pos c3] at L
               have:=zae c3
               exact Or.inl ⟨11,_,L,by decide,by omega,by omega⟩
             rw [if_neg c3,zal c3] at L
             rw [zal c3] at c2
             refine Or.inr ⟨name,value,word,124::64::t4,_,_,hs,hn,hfree,hp,hk,hg,Or.inr ⟨t4,rfl,?_,rfl,fun h2 => ?_,c3⟩,L⟩
             · exact Classical.byContradiction fun h=>c2 (Or.inl h)
             · exact Classical.byContradiction fun h=>c2 (Or.inr ⟨h2,h⟩)
           · rw [if_pos c1] at L
             exact Or.inl ⟨11,_,L,by decide,by omega,by omega⟩
         · have hw:seg 124 t2=t2:=zal hb2
           rw [hw] at hk hg
           have hs:s=name++58::(value++124::(t2++[])):=by rw [List.append_nil,← hsp2,← hsp]
           have L:=zva hn hfree hp hk hg
           have hs':=hs
           rw [List.append_nil] at hs'
           rw [← hs'] at L
           exact Or.inr ⟨name,value,t2,[],_,_,hs,hn,hfree,hp,hk,hg,Or.inl ⟨rfl,rfl⟩,L⟩
       · left
         refine ⟨11,(s.length:Int),?_,by decide,by omega,by omega⟩
         rw [e1]
         unfold valueS
         rw [if_neg (fun h=>h hv),decide_eq_false hb,if_pos rfl]; rfl
     · left
       refine ⟨17,((name.length+1:Nat):Int),?_,by decide,by omega,by omega⟩
       rw [e1]
       unfold valueS
       rw [if_pos hv]; rfl
   · left
     refine ⟨11,(s.length:Int),?_,by decide,by omega,by omega⟩
     unfold sdParse nameS
     have hn0:¬ ¬ (textF 1 (seg 58 s) 1 200).1=0:=by unfold nameOK at hn; simpa using hn
     rw [if_neg hn0,decide_eq_false h58,if_pos rfl]; rfl
 · left
   refine ⟨15,0,?_,by decide,by omega,by omega⟩
   unfold sdParse nameS
   rw [if_pos (fun h=>hn (by unfold nameOK; simp [h]))]; rfl
end Go.AM
set_option linter.unusedVariables false
set_option linter.unusedSimpArgs false
namespace Go.AM
def parseNum (s:List UInt8) (lo hi:Int):NumR:=
 if s=[] then numR 0 13 0 else if 0≤badK isDig 0 s then numR 0 14 (badK isDig 0 s) else if s.head? = some 48∧1<s.length then numR 0 11 0
 else if 9223372036854775808≤val s∨(val s:Int)<lo∨(val s:Int)>hi then numR 0 10 0 else numR (val s) 0 0
theorem zzj (n:Nat) {s:List UInt8} (hd:Digs s) (hn:s≠[]) (hs:s.length≤1000000):O.atoi n s=some (if val s<9223372036854775808 then ((val s:Int),false,()) else (Lib.atoiSat s,true,())):=by
 unfold O.atoi
 have:Nat.ble s.length big47=true:=by rw [Nat.ble_eq]; unfold big47; omega
 rw [this,cond_true,zq7 hd hn]
 by_cases h:val s<9223372036854775808
 · rw [if_pos h,if_pos h]
 · rw [if_neg h,if_neg h]
theorem zr3 (n:Nat) (s:List UInt8) (lo hi:Int) (hs:s.length≤1000000) (hn:s.length<n):F.zcr n s lo hi=some (parseNum s lo hi):=by
 unfold F.zcr parseNum
 rw [zbh n 4 s _ _ (by omega) hn,za,textF4 s (by omega)]
 by_cases h0:s=[]
 · rw [if_pos h0,if_pos h0]; rfl
 rw [if_neg h0,if_neg h0]
 by_cases h1:0≤badK isDig 0 s
 · rw [if_pos h1,if_pos h1]; rfl
 rw [if_neg h1,if_neg h1]
 have e:(!((0:Int)==0&&(0:Int)==0))=false:=rfl
 simp only [e,cond_false]
 have hd:=zbb h1
 cases s with
 | nil=>exact absurd rfl h0
 | cons b r =>
  have ei:idx (b::r) (0:Int)=some b:=rfl
  rw [ei,za,zzj n hd h0 hs,za]
  have tail:∀ (p:Bool) (A:Option NumR),(bif p then A else A)=A:=by intro p A; cases p<;>rfl
  have core:(bif (if val (b::r)<9223372036854775808 then ((val (b::r):Int),false,()) else (Lib.atoiSat (b::r),true,())).2.1 then (F.zar n 10 0).bind fun y6=>some ((y6.1,(y6.2.1.1,y6.2.1.2.1,()),()))
   else bif decide ((if val (b::r)<9223372036854775808 then ((val (b::r):Int),false,()) else (Lib.atoiSat (b::r),true,())).1<lo) then (F.zar n 10 0).bind fun y6=>some ((y6.1,(y6.2.1.1,y6.2.1.2.1,()),()))
   else bif decide ((if val (b::r)<9223372036854775808 then ((val (b::r):Int),false,()) else (Lib.atoiSat (b::r),true,())).1>hi) then (F.zar n 10 0).bind fun y6=>some ((y6.1,(y6.2.1.1,y6.2.1.2.1,()),()))
   else some (((if val (b::r)<9223372036854775808 then ((val (b::r):Int),false,()) else (Lib.atoiSat (b::r),true,())).1,((0:Int),(0:Int),()),())))
   = some (if 9223372036854775808≤val (b::r)∨(val (b::r):Int)<lo∨(val (b::r):Int)>hi then numR 0 10 0 else numR (val (b::r)) 0 0):=by
   by_cases hv:val (b::r)<9223372036854775808
   · rw [if_pos hv]
     simp only [cond_false]
     by_cases g1:(val (b::r):Int)<lo
     · rw [zd g1,if_pos (Or.inr (Or.inl g1))]; rfl
     · rw [ze g1]
       by_cases g2:(val (b::r):Int)>hi
       · rw [zd g2,if_pos (Or.inr (Or.inr g2))]; rfl
       · rw [ze g2,if_neg (by omega)]; rfl
   · rw [if_neg hv,if_pos (Or.inl (by omega))]; rfl
  by_cases hb:b=48
  · subst hb
    have e2:((((48:UInt8).toNat:Nat):Int)==48)=true:=rfl
    rw [e2,cond_true]
    by_cases hl:1<(48::r).length
    · rw [zd (by omega),if_pos (show (48::r).head? = some 48∧1<(48::r).length from ⟨rfl,hl⟩)]; rfl
    · rw [ze (by omega),if_neg (show ¬ ((48::r).head? = some 48∧1<(48::r).length) from fun h=>hl h.2)]; exact core
  · have e2:((b.toNat:Int)==48)=false:=by
     have:¬ (b.toNat:Int)=48:=fun h=>hb (za9 (by simp; omega))
     simpa using this
    rw [e2,cond_false,if_neg (show ¬ ((b::r).head? = some 48∧1<(b::r).length) from fun h=>hb (by simpa using h.1))]; exact core
theorem zjv (n:Nat) (h100:100≤n) (s:List UInt8) (lo hi:Int) (hs:s.length≤1000000) (hn:s.length<n):F.zcd n s lo hi=some (parseNum s lo hi):=by
 unfold F.zcd parseNum
 by_cases h0:s=[]
 · subst h0; rfl
 have e0:(s==[])=false:=by simpa using h0
 rw [e0,cond_false,if_neg h0,zij n h100 4 s (by omega) hn,za,zg4]
 by_cases h1:0≤badK isDig 0 s
 · rw [if_pos h1,zd h1]; rfl
 rw [if_neg h1,ze h1]
 have hd:=zbb h1
 cases s with
 | nil=>exact absurd rfl h0
 | cons b r =>
  have ei:idx (b::r) (0:Int)=some b:=rfl
  rw [ei,za,zju n _ (by omega) hn hd,za]
  have core:(bif !(if val (b::r)<9223372036854775808 then ((val (b::r):Int),true,()) else (0,false,())).2.1 then some (((0:Int),((10:Int),(0:Int),()),()))
   else bif decide ((if val (b::r)<9223372036854775808 then ((val (b::r):Int),true,()) else (0,false,())).1<lo) then some (((0:Int),((10:Int),(0:Int),()),()))
   else bif decide ((if val (b::r)<9223372036854775808 then ((val (b::r):Int),true,()) else (0,false,())).1>hi) then some (((0:Int),((10:Int),(0:Int),()),()))
   else some (((if val (b::r)<9223372036854775808 then ((val (b::r):Int),true,()) else (0,false,())).1,((0:Int),(0:Int),()),())))
   = some (if 9223372036854775808≤val (b::r)∨(val (b::r):Int)<lo∨(val (b::r):Int)>hi then numR 0 10 0 else numR (val (b::r)) 0 0):=by
   by_cases hv:val (b::r)<9223372036854775808
   · rw [if_pos hv]
     simp only [cond_false,Bool.not_true]
     by_cases g1:(val (b::r):Int)<lo
     · rw [zd g1,if_pos (Or.inr (Or.inl g1))]; rfl
     · rw [ze g1]
       by_cases g2:(val (b::r):Int)>hi
       · rw [zd g2,if_pos (Or.inr (Or.inr g2))]; rfl
       · rw [ze g2,if_neg (by omega)]; rfl
   · rw [if_neg hv,if_pos (Or.inl (by omega))]; rfl
  by_cases hb:b=48
  · subst hb
    have e2:((((48:UInt8).toNat:Nat):Int)==48)=true:=rfl
    rw [e2,cond_true]
    by_cases hl:1<(48::r).length
    · rw [zd (by omega),if_pos (show (48::r).head? = some 48∧1<(48::r).length from ⟨rfl,hl⟩)]; rfl
    · rw [ze (by omega),if_neg (show ¬ ((48::r).head? = some 48∧1<(48::r).length) from fun h=>hl h.2)]; exact core
  · have e2:((b.toNat:Int)==48)=false:=by
     have:¬ (b.toNat:Int)=48:=fun h=>hb (za9 (by simp; omega))
     simpa using this
    rw [e2,cond_false,if_neg (show ¬ ((b::r).head? = some 48∧1<(b::r).length) from fun h=>hb (by simpa using h.1))]; exact core
theorem zog (n:Nat) (s:List UInt8) (hs:s.length≤1000000) (hn:s.length<n):F.zcm n s=some (parseNum s 1 1099511627776):=by
 unfold F.zcm
 rw [zr3 n s _ _ hs hn,za]
def numText (k:Int):List UInt8×Int×Unit:=if k<0 then ([],10,()) else (Lib.decDigits k.toNat,0,())
theorem zl7 (n:Nat) (k:Int) (h : -9223372036854775808≤k∧k≤9223372036854775807):F.zci n k=some (numText k):=by
 unfold F.zci numText
 by_cases h0:k<0
 · rw [zd h0,if_pos h0]
 · rw [ze h0,if_neg h0]
   unfold O.itoa
   have:(decide (-9223372036854775808≤k)&&decide (k≤9223372036854775807))=true:=by simp [h]
   rw [this,cond_true,za]
   unfold Lib.itoa
   rw [if_neg h0]
theorem zeh {s:List UInt8} {lo hi:Int} (h:(parseNum s lo hi).2.1.1=0):(parseNum s lo hi).2.1.2.1=0∧(parseNum s lo hi).1=(val s:Int)∧val s<9223372036854775808∧lo≤(val s:Int)∧(val s:Int)≤hi∧Digs s∧Norm s:=by
 unfold parseNum at h ⊢
 by_cases h0:s=[]
 · rw [if_pos h0] at h; cases h
 rw [if_neg h0] at h ⊢
 by_cases h1:0≤badK isDig 0 s
 · rw [if_pos h1] at h; cases h
 rw [if_neg h1] at h ⊢
 by_cases h2:s.head? = some 48∧1<s.length
 · rw [if_pos h2] at h; cases h
 rw [if_neg h2] at h ⊢
 by_cases h3:9223372036854775808≤val s∨(val s:Int)<lo∨(val s:Int)>hi
 · rw [if_pos h3] at h; cases h
 rw [if_neg h3]
 refine ⟨rfl,rfl,by omega,by omega,by omega,zbb h1,h0,fun h => ?_⟩
 have h4:¬ 1<s.length:=fun hl=>h2 ⟨h,hl⟩
 have:0<s.length:=List.length_pos_iff.2 h0
 omega
end Go.AM
set_option linter.unusedVariables false
set_option linter.unusedSimpArgs false
namespace Go.AM
theorem zvb (x y:DecL):((x.1==y.1)&&((x.2.1==y.2.1)&&(x.2.2==y.2.2)))=decide (x=y):=by
 obtain ⟨a,b,c⟩:=x
 obtain ⟨a',b',c'⟩:=y
 by_cases h:((a,b,c):DecL)=(a',b',c')
 · rw [decide_eq_true h]
   simp only [Prod.mk.injEq] at h
   simp [h.1,h.2.1,h.2.2]
 · rw [decide_eq_false h]
   cases h1:(a==a')&&((b==b')&&(c==c')) with
   | false=>rfl
   | true =>
    simp only [Bool.and_eq_true,beq_iff_eq] at h1
    exact absurd (by rw [h1.1,h1.2.1,h1.2.2]) h
theorem zg6 (x y:TagL):((x.1==y.1)&&(x.2==y.2))=decide (x=y):=by
 obtain ⟨a,b⟩:=x
 obtain ⟨a',b'⟩:=y
 by_cases h:((a,b):TagL)=(a',b')
 · rw [decide_eq_true h]
   simp only [Prod.mk.injEq] at h
   simp [h.1,h.2]
 · rw [decide_eq_false h]
   cases h1:(a==a')&&(b==b') with
   | false=>rfl
   | true =>
    simp only [Bool.and_eq_true,beq_iff_eq] at h1
    exact absurd (by rw [h1.1,h1.2]) h
theorem zpi (n:Nat) (X:Type) (k0:List UInt8→Int→List DecL→Int→List TagL→Int→List UInt8→Int→List DecL→Int→List TagL→Int→Option X) (kr:Bool→List UInt8→Int→List DecL→Int→List TagL→Int→List UInt8→Int→List DecL→Int→List TagL→Int→Option X) (nm:List UInt8) (k:Int) (vs:List DecL) (r:Int) (ts:List TagL) (t:Int) (hs:vs.length≤10000):∀ (j i m:Nat),i+j=vs.length→j<m →
 F.zj.L4 n k0 kr m (i:Int) nm k vs r ts t nm k vs r ts t=k0 nm k vs r ts t nm k vs r ts t:=by
 intro j
 induction j with
 | zero =>
  intro i m hi hm
  obtain ⟨m,rfl⟩:∃ q,m=q+1:=⟨m - 1,by omega⟩
  show F.zj.L4.step n (F.zj.L4 n k0 kr m) k0 kr _ _ _ _ _ _ _ _ _ _ _ _ _=_
  unfold F.zj.L4.step
  rw [ze (by omega)]
 | succ j ih =>
  intro i m hi hm
  obtain ⟨m,rfl⟩:∃ q,m=q+1:=⟨m - 1,by omega⟩
  show F.zj.L4.step n (F.zj.L4 n k0 kr m) k0 kr _ _ _ _ _ _ _ _ _ _ _ _ _=_
  unfold F.zj.L4.step
  rw [zd (by omega),zcf (by omega:i<vs.length),za,za,zvb,decide_eq_true rfl,Bool.not_true,cond_false,zh (by omega),ih (i+1) m (by omega) (by omega)]
theorem zpj (n:Nat) (X:Type) (k0:List UInt8→Int→List DecL→Int→List TagL→Int→List UInt8→Int→List DecL→Int→List TagL→Int→Option X) (kr:Bool→List UInt8→Int→List DecL→Int→List TagL→Int→List UInt8→Int→List DecL→Int→List TagL→Int→Option X) (nm:List UInt8) (k:Int) (vs:List DecL) (r:Int) (ts:List TagL) (t:Int) (hs:ts.length≤10000):∀ (j i m:Nat),i+j=ts.length→j<m →
 F.zj.L9 n k0 kr m (i:Int) nm k vs r ts t nm k vs r ts t=k0 nm k vs r ts t nm k vs r ts t:=by
 intro j
 induction j with
 | zero =>
  intro i m hi hm
  obtain ⟨m,rfl⟩:∃ q,m=q+1:=⟨m - 1,by omega⟩
  show F.zj.L9.step n (F.zj.L9 n k0 kr m) k0 kr _ _ _ _ _ _ _ _ _ _ _ _ _=_
  unfold F.zj.L9.step
  rw [ze (by omega)]
 | succ j ih =>
  intro i m hi hm
  obtain ⟨m,rfl⟩:∃ q,m=q+1:=⟨m - 1,by omega⟩
  show F.zj.L9.step n (F.zj.L9 n k0 kr m) k0 kr _ _ _ _ _ _ _ _ _ _ _ _ _=_
  unfold F.zj.L9.step
  rw [zd (by omega),zcf (by omega:i<ts.length),za,za,zg6,decide_eq_true rfl,Bool.not_true,cond_false,zh (by omega),ih (i+1) m (by omega) (by omega)]
theorem zj8 (n:Nat) (hn:200000≤n) (a:MetD) (h1:a.2.2.1.length≤10000) (h2:a.2.2.2.2.1.length≤10000):F.zj n a a=some true:=by
 obtain ⟨nm,k,vs,r,ts,t,_⟩:=a
 simp only at h1 h2
 unfold F.zj
 simp only [beq_self_eq_true,Bool.not_true,cond_false]
 refine (zpi n Bool _ _ nm k vs r ts t h1 vs.length 0 n (by omega) (by omega)).trans ?_
 exact zpj n Bool _ _ nm k vs r ts t h2 ts.length 0 n (by omega) (by omega)
end Go.AM
set_option linter.unusedVariables false
set_option linter.unusedSimpArgs false
namespace Go.AM
theorem zvc {s:List UInt8} (h:(parseR s).2.1.1=0):∃ (neg:Bool) (c:Nat) (e:Int),parseR s=((neg,(c:Int),e,()),(0,0,()),())∧c<two64∧(-9223372036854775808≤e∧e≤9223372036854775807)∧checkR neg c e=0:=by
 rcases znh s with ⟨h1,_⟩ | h1
 · exact absurd h h1
 · exact h1
end Go.AM
set_option linter.unusedVariables false
set_option linter.unusedSimpArgs false
namespace Go.AM
abbrev timeR (s:List UInt8):NumR:=parseNum s 1 1099511627776
abbrev OkG (name:List UInt8) (d:DecL) (t:Int):MetR:=((name,2,[d],1000000,[],t,()),(0,0,()),())
def timeS (name:List UInt8) (d:DecL) (u:List UInt8) (p:Nat):MetR:=
 if ¬ (timeR (seg 32 u)).2.1.1=0 then badM 20 (p:Int) else if 32∈u then badM 11 ((p+(seg 32 u).length:Nat):Int) else OkG name d (timeR (seg 32 u)).1
def valueG (name:List UInt8) (u:List UInt8) (p:Nat):MetR:=
 if ¬ (parseR (seg 32 u)).2.1.1=0 then badM 17 (p:Int) else if ¬ 32∈u then badM 11 ((p+(seg 32 u).length:Nat):Int)
 else timeS name ((parseR (seg 32 u)).1.1,(parseR (seg 32 u)).1.2.1,(parseR (seg 32 u)).1.2.2.1) (u.drop ((seg 32 u).length+1)) (p+(seg 32 u).length+1)
def grParse (s:List UInt8):MetR:=
 if nameOK (seg 32 s)=false then badM 15 0 else if ¬ 32∈s then badM 11 ((seg 32 s).length:Int) else valueG (seg 32 s) (s.drop ((seg 32 s).length+1)) ((seg 32 s).length+1)
theorem zni {s:List UInt8} {lo hi:Int} (h:(parseNum s lo hi).2.1.1=0):(parseNum s lo hi).2.1.2.1=0:=(zeh h).1
theorem zgo {c a:Int} (h:c=0→a=0):(!((c==0)&&(a==0))) = !(c==0):=by
 by_cases hc:c=0
 · rw [hc,h hc]; rfl
 · rw [beq_eq_false_iff_ne.2 hc]; rfl
section
variable {X:Type} (n:Nat) (rec:Int→Int→Bool→List UInt8→Int→List DecL→Int→List TagL→Int→Int→Int→List UInt8→Int→List DecL→Int→List TagL→Int→Int→Int→List UInt8→Nat→Nat→Nat→Nat→Option X)
 (k0 kr:List UInt8→Int→List DecL→Int→List TagL→Int→Int→Int→List UInt8→Int→List DecL→Int→List TagL→Int→Int→Int→List UInt8→Nat→Nat→Nat→Nat→Option X)
 (b0:List UInt8) (b1:Int) (b2:List DecL) (b3:Int) (b4:List TagL) (b5 b6 b7:Int) (nm:List UInt8) (kd:Int) (vs:List DecL) (rt:Int) (ts:List TagL) (tm c a:Int) (s:List UInt8) (i0 i1 i2 i3:Nat)
theorem zzm (p i:Int):F.zo.L2_graphite_cut_1.step n rec k0 kr p i false b0 b1 b2 b3 b4 b5 b6 b7 nm kd vs rt ts tm c a s i0 i1 i2 i3=k0 b0 b1 b2 b3 b4 b5 b6 b7 nm kd vs rt ts tm c a s i0 i1 i2 i3:=rfl
theorem zvd (hn:200000≤n) (p:Nat) (hp:p≤s.length) (hs:s.length≤10000) :
 F.zo.L2_graphite_cut_1.step n rec k0 kr (p:Int) 0 true b0 b1 b2 b3 b4 b5 b6 b7 nm kd vs rt ts tm c a s i0 i1 i2 i3 =
  (if nameOK (seg 32 (s.drop p))=false then kr b0 b1 b2 b3 b4 b5 b6 b7 (seg 32 (s.drop p)) kd vs rt ts tm 15 (p:Int) s i0 i1 i2 i3
  else if ¬ 32∈s.drop p then kr b0 b1 b2 b3 b4 b5 b6 b7 (seg 32 (s.drop p)) kd vs rt ts tm 11 ((p+(seg 32 (s.drop p)).length:Nat):Int) s i0 i1 i2 i3
  else rec ((p+(seg 32 (s.drop p)).length+1:Nat):Int) 1 true b0 b1 b2 b3 b4 b5 b6 b7 (seg 32 (s.drop p)) kd vs rt ts tm c a s i0 i1 i2 i3):=by
 unfold F.zo.L2_graphite_cut_1.step
 have hl:=z6 32 (s.drop p)
 simp only [List.length_drop] at hl
 rw [cond_true,za4 hp,za,zbz n 32 (by simp; omega),za]
 simp only [beq_self_eq_true,cond_true]
 rw [zbh n 1 _ 1 200 (by omega) (by omega),za,za6]
 have e1:((textF 1 (seg 32 (s.drop p)) 1 200).1==0)=nameOK (seg 32 (s.drop p)):=rfl
 have w1:IntKind.wrap .i64 ((p:Int)+((seg 32 (s.drop p)).length:Int))=((p+(seg 32 (s.drop p)).length:Nat):Int):=by rw [zi (by omega)]; omega
 have w2:IntKind.wrap .i64 ((p:Int)+(IntKind.wrap .i64 (((seg 32 (s.drop p)).length:Int)+(1:Int))))=((p+(seg 32 (s.drop p)).length+1:Nat):Int):=by rw [zi (x:=((seg 32 (s.drop p)).length:Int)+1) (by omega),zi (by omega)]; omega
 have w3:IntKind.wrap .i64 ((0:Int)+1)=1:=rfl
 rw [e1,w1,w2,w3]
 cases nameOK (seg 32 (s.drop p))
 · rfl
 · have d2:decide ((0:Int)<2)=true:=rfl
   rw [Bool.not_true,cond_false,if_neg (by simp),d2]
   by_cases hm:32∈s.drop p
   · rw [decide_eq_true hm,if_neg (fun h=>h hm)]; rfl
   · rw [decide_eq_false hm,if_pos hm]; rfl
theorem zve (hn:200000≤n) (p:Nat) (hp:p≤s.length) (hs:s.length≤10000) :
 F.zo.L2_graphite_cut_1.step n rec k0 kr (p:Int) 1 true b0 b1 b2 b3 b4 b5 b6 b7 nm kd vs rt ts tm c a s i0 i1 i2 i3 =
  (if ¬ (parseR (seg 32 (s.drop p))).2.1.1=0 then kr b0 b1 b2 b3 b4 b5 b6 b7 nm kd vs rt ts tm 17 (p:Int) s i0 i1 i2 i3
  else if ¬ 32∈s.drop p then kr b0 b1 b2 b3 b4 b5 b6 b7 nm kd [((parseR (seg 32 (s.drop p))).1.1,(parseR (seg 32 (s.drop p))).1.2.1,(parseR (seg 32 (s.drop p))).1.2.2.1)] rt ts tm 11 ((p+(seg 32 (s.drop p)).length:Nat):Int) s i0 i1 1 i3
  else rec ((p+(seg 32 (s.drop p)).length+1:Nat):Int) 2 true b0 b1 b2 b3 b4 b5 b6 b7 nm kd [((parseR (seg 32 (s.drop p))).1.1,(parseR (seg 32 (s.drop p))).1.2.1,(parseR (seg 32 (s.drop p))).1.2.2.1)] rt ts tm c a s i0 i1 1 i3):=by
 unfold F.zo.L2_graphite_cut_1.step
 have hl:=z6 32 (s.drop p)
 simp only [List.length_drop] at hl
 rw [cond_true,za4 hp,za,zbz n 32 (by simp; omega),za]
 have g1:((1:Int)==0)=false:=rfl
 simp only [beq_self_eq_true,cond_true,g1,cond_false]
 have w1:IntKind.wrap .i64 ((p:Int)+((seg 32 (s.drop p)).length:Int))=((p+(seg 32 (s.drop p)).length:Nat):Int):=by rw [zi (by omega)]; omega
 have w2:IntKind.wrap .i64 ((p:Int)+(IntKind.wrap .i64 (((seg 32 (s.drop p)).length:Int)+(1:Int))))=((p+(seg 32 (s.drop p)).length+1:Nat):Int):=by rw [zi (x:=((seg 32 (s.drop p)).length:Int)+1) (by omega),zi (by omega)]; omega
 have w3:IntKind.wrap .i64 ((1:Int)+1)=2:=rfl
 rw [zdo n hn _ (by omega),za,zgo (fun h=>zci h),w1,w2,w3]
 by_cases h0:(parseR (seg 32 (s.drop p))).2.1.1=0
 · have e0:((parseR (seg 32 (s.drop p))).2.1.1==0)=true:=by simp [h0]
   have d2:decide ((1:Int)<2)=true:=rfl
   rw [e0,Bool.not_true,cond_false,if_neg (fun h=>h h0),d2]
   by_cases hm:32∈s.drop p
   · rw [decide_eq_true hm,if_neg (fun h=>h hm)]; rfl
   · rw [decide_eq_false hm,if_pos hm]; rfl
 · have e0:((parseR (seg 32 (s.drop p))).2.1.1==0)=false:=by simpa using h0
   rw [e0,if_pos h0]; rfl
theorem zvf (hn:200000≤n) (p:Nat) (hp:p≤s.length) (hs:s.length≤10000) :
 F.zo.L2_graphite_cut_1.step n rec k0 kr (p:Int) 2 true b0 b1 b2 b3 b4 b5 b6 b7 nm kd vs rt ts tm c a s i0 i1 i2 i3 =
  (if ¬ (timeR (seg 32 (s.drop p))).2.1.1=0 then kr b0 b1 b2 b3 b4 b5 b6 b7 nm kd vs rt ts tm 20 (p:Int) s i0 i1 i2 i3
  else if 32∈s.drop p then kr b0 b1 b2 b3 b4 b5 b6 b7 nm kd vs rt ts (timeR (seg 32 (s.drop p))).1 11 ((p+(seg 32 (s.drop p)).length:Nat):Int) s i0 i1 i2 i3
  else rec ((p+(seg 32 (s.drop p)).length+1:Nat):Int) 3 false b0 b1 b2 b3 b4 b5 b6 b7 nm kd vs rt ts (timeR (seg 32 (s.drop p))).1 c a s i0 i1 i2 i3):=by
 unfold F.zo.L2_graphite_cut_1.step
 have hl:=z6 32 (s.drop p)
 simp only [List.length_drop] at hl
 rw [cond_true,za4 hp,za,zbz n 32 (by simp; omega),za]
 have g1:((2:Int)==0)=false:=rfl
 have g2:((2:Int)==1)=false:=rfl
 simp only [g1,g2,cond_false]
 have w1:IntKind.wrap .i64 ((p:Int)+((seg 32 (s.drop p)).length:Int))=((p+(seg 32 (s.drop p)).length:Nat):Int):=by rw [zi (by omega)]; omega
 have w2:IntKind.wrap .i64 ((p:Int)+(IntKind.wrap .i64 (((seg 32 (s.drop p)).length:Int)+(1:Int))))=((p+(seg 32 (s.drop p)).length+1:Nat):Int):=by rw [zi (x:=((seg 32 (s.drop p)).length:Int)+1) (by omega),zi (by omega)]; omega
 have w3:IntKind.wrap .i64 ((2:Int)+1)=3:=rfl
 rw [zog n _ (by omega) (by omega),za,zgo (fun h=>zni h),w1,w2,w3]
 by_cases h0:(timeR (seg 32 (s.drop p))).2.1.1=0
 · have e0:((timeR (seg 32 (s.drop p))).2.1.1==0)=true:=by simp [h0]
   have d2:decide ((2:Int)<2)=false:=rfl
   rw [e0,Bool.not_true,cond_false,if_neg (fun h=>h h0),d2]
   by_cases hm:32∈s.drop p
   · rw [decide_eq_true hm,if_pos hm]; rfl
   · rw [decide_eq_false hm,if_neg hm]; rfl
 · have e0:((timeR (seg 32 (s.drop p))).2.1.1==0)=false:=by simpa using h0
   rw [e0,if_pos h0]; rfl
end
theorem zpk (n:Nat) (hn:200000≤n) (s:List UInt8) (hs:s.length≤10000):F.zo n s=some (grParse s):=by
 unfold F.zo
 generalize hk0:(fun (e6_b0_0:List UInt8) (e6_b0_1:Int) (e6_b0_2:List DecL) (e6_b0_3:Int) (e6_b0_4:List TagL) (e6_b0_5 e6_b1_0 e6_b1_1:Int) (e6_b2_0:List UInt8) (e6_b2_1:Int) (e6_b2_2:List DecL) (e6_b2_3:Int) (e6_b2_4:List TagL) (e6_b2_5 e6_b3_0 e6_b3_1:Int) (e6_b4_0:List UInt8) (e6_k0 e6_k1 e6_k2 e6_k3:Nat) =>
  bif !((e6_b3_0==(0:Int))&&(e6_b3_1==(0:Int))) then
   some (((([],(0:Int),[],(0:Int),[],(0:Int),()),(e6_b3_0,e6_b3_1,()),()):MetR))
  else
   some (((e6_b2_0,e6_b2_1,e6_b2_2,e6_b2_3,e6_b2_4,e6_b2_5,()),(e6_b3_0,e6_b3_1,()),())))=k0
 have hbad:∀ (b0:List UInt8) (b1:Int) (b2:List DecL) (b3:Int) (b4:List TagL) (b5 b6 b7:Int) (nm:List UInt8) (kd:Int) (vs:List DecL) (rt:Int) (ts:List TagL) (tm c a:Int) (s:List UInt8) (i0 i1 i2 i3:Nat),¬ c=0→k0 b0 b1 b2 b3 b4 b5 b6 b7 nm kd vs rt ts tm c a s i0 i1 i2 i3=some (badM c a):=by
  intro b0 b1 b2 b3 b4 b5 b6 b7 nm kd vs rt ts tm c a s i0 i1 i2 i3 hc
  rw [← hk0]
  simp only
  rw [beq_eq_false_iff_ne.2 hc]; rfl
 have hok:∀ (b0:List UInt8) (b1:Int) (b2:List DecL) (b3:Int) (b4:List TagL) (b5 b6 b7:Int) (nm:List UInt8) (kd:Int) (vs:List DecL) (rt:Int) (ts:List TagL) (tm:Int) (s:List UInt8) (i0 i1 i2 i3:Nat),k0 b0 b1 b2 b3 b4 b5 b6 b7 nm kd vs rt ts tm 0 0 s i0 i1 i2 i3=some ((nm,kd,vs,rt,ts,tm,()),(0,0,()),()):=by
  intro b0 b1 b2 b3 b4 b5 b6 b7 nm kd vs rt ts tm s i0 i1 i2 i3
  rw [← hk0]; rfl
 obtain ⟨q,hq⟩:∃ q,n=q+1+1+1+1:=⟨n - 4,by omega⟩
 have st:∀ m p i b b0 b1 b2 b3 b4 b5 b6 b7 nm kd vs rt ts tm c a s i0 i1 i2 i3,F.zo.L2_graphite_cut_1 n k0 k0 (m+1) p i b b0 b1 b2 b3 b4 b5 b6 b7 nm kd vs rt ts tm c a s i0 i1 i2 i3=F.zo.L2_graphite_cut_1.step n (F.zo.L2_graphite_cut_1 n k0 k0 m) k0 k0 p i b b0 b1 b2 b3 b4 b5 b6 b7 nm kd vs rt ts tm c a s i0 i1 i2 i3:=fun _ _ _ _ _ _ _ _ _ _ _ _ _ _ _ _ _ _ _ _ _ _ _ _ _=>rfl
 have key:F.zo.L2_graphite_cut_1 n k0 k0 (q+1+1+1+1) 0 0 true [] 0 [] 0 [] 0 0 0 [] 2 [] 1000000 [] 0 0 0 s 0 0 0 0=some (grParse s):=by
  have hl:=z6 32 s
  have r0:=zvd n (F.zo.L2_graphite_cut_1 n k0 k0 (q+1+1+1)) k0 k0 [] 0 [] 0 [] 0 0 0 [] 2 [] 1000000 [] 0 0 0 s 0 0 0 0 hn 0 (by omega) hs
  rw [st]
  refine r0.trans ?_
  rw [List.drop_zero,Nat.zero_add]
  unfold grParse
  by_cases h1:nameOK (seg 32 s)=false
  · rw [if_pos h1,if_pos h1]; exact hbad _ _ _ _ _ _ _ _ _ _ _ _ _ _ _ _ _ _ _ _ _ (by decide)
  rw [if_neg h1,if_neg h1]
  by_cases h2:¬ 32∈s
  · rw [if_pos h2,if_pos h2]; exact hbad _ _ _ _ _ _ _ _ _ _ _ _ _ _ _ _ _ _ _ _ _ (by decide)
  rw [if_neg h2,if_neg h2]
  have hlt:=zae (Classical.not_not.1 h2)
  generalize hA:(seg 32 s).length=A at *
  have hl2:=z6 32 (s.drop (A+1))
  simp only [List.length_drop] at hl2
  rw [st,zve n _ k0 k0 _ _ _ _ _ _ _ _ _ _ _ _ _ _ _ _ s _ _ _ _ hn (A+1) (by omega) hs]
  unfold valueG
  by_cases h3:¬ (parseR (seg 32 (s.drop (A+1)))).2.1.1=0
  · rw [if_pos h3,if_pos h3]; exact hbad _ _ _ _ _ _ _ _ _ _ _ _ _ _ _ _ _ _ _ _ _ (by decide)
  rw [if_neg h3,if_neg h3]
  by_cases h4:¬ 32∈s.drop (A+1)
  · rw [if_pos h4,if_pos h4]; exact hbad _ _ _ _ _ _ _ _ _ _ _ _ _ _ _ _ _ _ _ _ _ (by decide)
  rw [if_neg h4,if_neg h4]
  have hlt2:=zae (Classical.not_not.1 h4)
  simp only [List.length_drop] at hlt2
  have hd2:(s.drop (A+1)).drop ((seg 32 (s.drop (A+1))).length+1)=s.drop (A+1+(seg 32 (s.drop (A+1))).length+1):=by rw [List.drop_drop]; rfl
  rw [hd2]
  generalize hB:A+1+(seg 32 (s.drop (A+1))).length=B at *
  rw [st,zvf n _ k0 k0 _ _ _ _ _ _ _ _ _ _ _ _ _ _ _ _ s _ _ _ _ hn (B+1) (by omega) hs]
  unfold timeS
  by_cases h5:¬ (timeR (seg 32 (s.drop (B+1)))).2.1.1=0
  · rw [if_pos h5,if_pos h5]; exact hbad _ _ _ _ _ _ _ _ _ _ _ _ _ _ _ _ _ _ _ _ _ (by decide)
  rw [if_neg h5,if_neg h5]
  by_cases h6:32∈s.drop (B+1)
  · rw [if_pos h6,if_pos h6]; exact hbad _ _ _ _ _ _ _ _ _ _ _ _ _ _ _ _ _ _ _ _ _ (by decide)
  rw [if_neg h6,if_neg h6,st,zzm]
  exact hok _ _ _ _ _ _ _ _ _ _ _ _ _ _ _ _ _ _ _
 rw [← hq] at key
 exact key
theorem zvg (n:Nat) (hn:100≤n) (s:List UInt8) (hs:s.length≤1000000) (hl:s.length<n):F.zbq n s=some (timeR s):=by
 unfold F.zbq
 rw [zjv n hn s _ _ hs hl,za]
theorem wrong12 (n:Nat) (c a:Int):F.zbj n c a=some (badM c a):=rfl
theorem zvh (n:Nat) (hn:200000≤n) (s:List UInt8) (hs:s.length≤10000):F.zce n s=some (grParse s):=by
 unfold F.zce grParse
 have f0:F.zu n s (0:Int) (32:Int)=some (((seg 32 s).length:Nat):Int):=by
  have:=zb8 n 32 s (by omega) (by omega) 0 (by omega)
  rw [List.drop_zero,Nat.zero_add] at this
  exact this
 have hl:=z6 32 s
 have s0:sub s (0:Int) (((seg 32 s).length:Nat):Int)=some (seg 32 s):=by
  have:=zb9 (s:=s) (c:=32) (p:=0) (by omega)
  rw [List.drop_zero,Nat.zero_add] at this
  exact this
 have e0:((((seg 32 s).length:Nat):Int)==(s.length:Int)) = !decide (32∈s):=by
  have:=zdx (s:=s) (c:=32) (p:=0) (by omega)
  rw [List.drop_zero,Nat.zero_add] at this
  exact this
 simp only [f0,za,s0,zh0 n hn _ (by omega:(seg 32 s).length≤10000),e0,wrong12]
 by_cases h1:nameOK (seg 32 s)=false
 · rw [if_pos h1,h1]; rfl
 rw [if_neg h1]
 have h1':nameOK (seg 32 s)=true:=by simpa using h1
 rw [h1',Bool.not_true,cond_false]
 by_cases h2:32∈s
 · have hlt:=zae h2
   rw [if_neg (fun h=>h h2),decide_eq_true h2,Bool.not_true,cond_false,zh (by omega)]
   generalize hA:(seg 32 s).length=A at *
   have hl2:=z6 32 (s.drop (A+1))
   simp only [List.length_drop] at hl2
   unfold valueG
   rw [show (32:Int)=((32:UInt8).toNat:Int) from rfl,zb8 n 32 s (by omega) (by omega) (A+1) (by omega),za,zb9 (by omega),za,zdp n hn _ (by omega),za,zdx (by omega)]
   by_cases h3:(parseR (seg 32 (s.drop (A+1)))).2.1.1=0
   · have e3:((parseR (seg 32 (s.drop (A+1)))).2.1.1==0)=true:=by simp [h3]
     rw [if_neg (fun h=>h h3),e3,Bool.not_true,cond_false]
     by_cases h4:32∈s.drop (A+1)
     · have hlt2:=zae h4
       simp only [List.length_drop] at hlt2
       have hd2:(s.drop (A+1)).drop ((seg 32 (s.drop (A+1))).length+1)=s.drop (A+1+(seg 32 (s.drop (A+1))).length+1):=by rw [List.drop_drop]; rfl
       rw [if_neg (fun h=>h h4),decide_eq_true h4,Bool.not_true,cond_false,zh (by omega),hd2]
       generalize hB:A+1+(seg 32 (s.drop (A+1))).length=B at *
       have hl3:=z6 32 (s.drop (B+1))
       simp only [List.length_drop] at hl3
       unfold timeS
       rw [zb8 n 32 s (by omega) (by omega) (B+1) (by omega),za,zb9 (by omega),za,zvg n (by omega) _ (by omega) (by omega),za]
       by_cases h5:(timeR (seg 32 (s.drop (B+1)))).2.1.1=0
       · have e5:((timeR (seg 32 (s.drop (B+1)))).2.1.1==0)=true:=by simp [h5]
         rw [if_neg (fun h=>h h5),e5,Bool.not_true,cond_false]
         by_cases h6:32∈s.drop (B+1)
         · have:=zae h6
           simp only [List.length_drop] at this
           rw [if_pos h6,zd (by omega)]
         · rw [if_neg h6,ze (by rw [zal h6]; simp; omega)]
       · have e5:((timeR (seg 32 (s.drop (B+1)))).2.1.1==0)=false:=by simpa using h5
         rw [if_pos h5,e5]; rfl
     · rw [if_pos h4,decide_eq_false h4]; rfl
   · have e3:((parseR (seg 32 (s.drop (A+1)))).2.1.1==0)=false:=by simpa using h3
     rw [if_pos h3,e3]; rfl
 · rw [if_pos h2,decide_eq_false h2]; rfl
end Go.AM
set_option linter.unusedVariables false
set_option linter.unusedSimpArgs false
namespace Go.AM
def lineG (m:MetD):List UInt8:=m.1++[32]++valL m.2.2.1++[32]++Lib.decDigits m.2.2.2.2.2.1.toNat
def lineGR (m:MetD):List UInt8×Int×Unit:=if expM m 3=0 then (lineG m,0,()) else ([],expM m 3,())
theorem zgp {m:MetD} (h:expM m 3=0):∃ nm d t,m=(nm,2,[d],1000000,[],t,())∧nameOK nm=true∧decC d=0∧1≤t∧t≤1099511627776:=by
 obtain ⟨nm,k,vs,r,ts,t,_⟩:=m
 unfold expM at h
 rw [if_neg (by omega)] at h
 by_cases h0:chkM (nm,k,vs,r,ts,t,())=0
 · rw [if_pos h0] at h
   have hs:saysG (nm,k,vs,r,ts,t,())=true:=by
    cases e:saysM (nm,k,vs,r,ts,t,()) 3
    · rw [e] at h; cases h
    · exact e
   obtain ⟨c1,c2,c3,c4,c5,c6⟩:=za7 h0
   simp only at c1 c2 c3 c4 c5 c6
   unfold saysG at hs
   simp only [Bool.and_eq_true,Bool.not_eq_true',beq_iff_eq,beq_eq_false_iff_ne] at hs
   obtain ⟨hb,ht,hk⟩:=hs
   subst hk
   unfold bareM at hb
   simp only [Bool.and_eq_true,decide_eq_true_eq] at hb
   obtain ⟨hv,hg⟩:=hb
   have hg':ts=[]:=List.length_eq_zero_iff.1 hg
   subst hg'
   match vs,hv with
   | [d],_ =>
    unfold valsB at c3
    unfold rateB at c4
    unfold timeB at c6
    simp only [Bool.and_eq_true,decide_eq_true_eq,List.all_cons,List.all_nil,Bool.and_true,beq_iff_eq,Bool.or_eq_true,Bool.not_eq_true',beq_eq_false_iff_ne] at c3 c4 c6
    have hr:r=1000000:=by
     rcases c4.2.2 with h | h
     · exact absurd rfl h
     · exact h
    subst hr
    exact ⟨nm,d,t,rfl,c1,c3.2.2,by omega,c6.2⟩
 · rw [if_neg h0] at h; exact absurd h h0
theorem zoh {t:Int} (h1:1≤t) (h2:t≤1099511627776):(Lib.decDigits t.toNat).length≤13:=zfh (by omega) (by omega)
theorem zvi (n:Nat) (hn:200000≤n) (m:MetD) (hm:MetOK m):F.zbo n m=some (lineGR m):=by
 unfold F.zbo lineGR
 have he:F.za2 n (m.1,m.2.1,m.2.2.1,m.2.2.2.1,m.2.2.2.2.1,m.2.2.2.2.2.1,()) (3:Int)=some (expM m 3):=zim n hn m hm 3
 rw [he,za]
 by_cases h0:expM m 3=0
 · rw [if_pos h0]
   obtain ⟨nm,d,t,rfl,hnm,hd,t1,t2⟩:=zgp h0
   have hdo:DecLOK d:=hm.2.1.2 d (by simp)
   have hn1:=hm.1
   simp only at hn1
   have ht:=zbp hdo hd
   have hi:idx [d] (0:Int)=some d:=rfl
   have hnt:numText t=(Lib.decDigits t.toNat,0,()):=by unfold numText; rw [if_neg (by omega)]
   have hl:=zoh t1 t2
   rw [h0]
   simp only [za,hi,zee n hn hdo hd,zl7 n t (by omega),hnt]
   unfold lineG valL
   simp only [beq_self_eq_true,Bool.not_true,cond_false]
   rw [zd (by rw [zj]; omega),zd (by rw [zj]; simp; omega),zd (by rw [zj]; simp; omega),zd (by rw [zj]; simp; omega)]
 · rw [beq_eq_false_iff_ne.2 h0,if_neg h0]; rfl
theorem znj (n:Nat) (hn:200000≤n) (m:MetD) (hm:MetOK m) (h0:expM m 3=0):F.zb9 n m=some (lineG m):=by
 unfold F.zb9 F.zbk
 obtain ⟨nm,d,t,rfl,hnm,hd,t1,t2⟩:=zgp h0
 have hdo:DecLOK d:=hm.2.1.2 d (by simp)
 have hn1:=hm.1
 simp only at hn1
 have ht:=zbp hdo hd
 have hi:idx [d] (0:Int)=some d:=rfl
 have hl:=zoh t1 t2
 have hdg:F.zam n (IntKind.wrap .u64 t)=some (Lib.decDigits t.toNat):=by
  rw [IntWalk.u64_in _ (by omega)]
  have:=zef n (by omega) t.toNat (by omega)
  rw [show ((t.toNat:Nat):Int)=t from by omega] at this
  exact this
 simp only [hi,za,zdq n hn hdo hd,hdg]
 unfold lineG valL
 rw [zd (by rw [zj]; omega),zd (by rw [zj]; simp; omega),zd (by rw [zj]; simp; omega),zd (by rw [zj]; simp; omega)]
theorem zvj (s:List UInt8):(∃ c a:Int,grParse s=badM c a∧c≠0∧0≤a∧a≤s.length) ∨
 (∃ name value time d,s=name++32::(value++32::time)∧nameOK name=true∧(32:UInt8)∉name∧(32:UInt8)∉value∧(32:UInt8)∉time∧parseR value=((d.1,d.2.1,d.2.2,()),(0,0,()),())∧(timeR time).2.1.1=0∧grParse s=OkG name d (timeR time).1):=by
 unfold grParse
 have hl:=z6 32 s
 by_cases h1:nameOK (seg 32 s)=false
 · rw [if_pos h1]
   exact Or.inl ⟨15,0,rfl,by decide,by omega,by omega⟩
 rw [if_neg h1]
 by_cases h2:¬ 32∈s
 · rw [if_pos h2]
   exact Or.inl ⟨11,_,rfl,by decide,by omega,by omega⟩
 rw [if_neg h2]
 have h2':=Classical.not_not.1 h2
 have hsp:=zbi h2'
 have hfr:=zg5 32 s
 have hlen:=congrArg List.length hsp
 simp only [List.length_append,List.length_cons] at hlen
 generalize seg 32 s=name at *
 generalize s.drop (name.length+1)=t at *
 unfold valueG
 have hl2:=z6 32 t
 by_cases h3:¬ (parseR (seg 32 t)).2.1.1=0
 · rw [if_pos h3]
   exact Or.inl ⟨17,_,rfl,by decide,by omega,by omega⟩
 rw [if_neg h3]
 by_cases h4:¬ 32∈t
 · rw [if_pos h4]
   exact Or.inl ⟨11,_,rfl,by decide,by omega,by omega⟩
 rw [if_neg h4]
 have h4':=Classical.not_not.1 h4
 have hsp2:=zbi h4'
 have hfr2:=zg5 32 t
 have hlen2:=congrArg List.length hsp2
 simp only [List.length_append,List.length_cons] at hlen2
 generalize seg 32 t=value at *
 generalize t.drop (value.length+1)=u at *
 unfold timeS
 have hl3:=z6 32 u
 by_cases h5:¬ (timeR (seg 32 u)).2.1.1=0
 · rw [if_pos h5]
   exact Or.inl ⟨20,_,rfl,by decide,by omega,by omega⟩
 rw [if_neg h5]
 by_cases h6:32∈u
 · rw [if_pos h6]
   exact Or.inl ⟨11,_,rfl,by decide,by omega,by omega⟩
 rw [if_neg h6]
 rw [zal h6] at h5 ⊢
 have h3':=Classical.not_not.1 h3
 have hat:=zci h3'
 refine Or.inr ⟨name,value,u,((parseR value).1.1,(parseR value).1.2.1,(parseR value).1.2.2.1),by rw [← hsp2,← hsp],by simpa using h1,hfr,hfr2,h6,?_,Classical.not_not.1 h5,rfl⟩
 generalize parseR value=z at h3' hat
 obtain ⟨⟨a,b,c,_⟩,⟨x,y,_⟩,_⟩:=z
 simp only at h3' hat
 subst h3' hat
 rfl
end Go.AM
set_option linter.unusedVariables false
set_option linter.unusedSimpArgs false
namespace Go.AM
theorem zjw (n:Nat) (X:Type) (k0:List UInt8→List UInt8→Option X) (kr:Bool→Option X) (a b:List UInt8) (k m:Nat) (h:a.length≤k∨b.length≤k) (hm:0<m):F.z8.L2 n k0 kr m a b (k:Int)=k0 a b:=by
 obtain ⟨m,rfl⟩:∃ p,m=p+1:=⟨m - 1,by omega⟩
 show F.z8.L2.step n (F.z8.L2 n k0 kr m) k0 kr _ _ _=_
 unfold F.z8.L2.step
 by_cases hk:(k:Int)<(a.length:Int)
 · rw [zd hk,ze (by omega)]
 · rw [ze hk]
theorem zl8 (n:Nat) (a b:List UInt8) (ha:a.length≤1000000) (hb:b.length≤1000000) (hn:a.length<n):F.z8 n a b=some (Op.bytesLess a b):=by
 have L:∀ (r q:List UInt8) (k m:Nat),a.drop k=r→b.drop k=q→k≤a.length→k≤b.length→r.length<m →
  F.z8.L2 n (fun e5_0 e5_1=>some (decide ((e5_0.length:Int)<(e5_1.length:Int)))) (fun e6_4=>some (e6_4)) m a b (k:Int)=some (Op.bytesLess r q):=by
  intro r
  induction r with
  | nil =>
   intro q k m h1 h2 ka kb hm
   have l1:=zl h1
   rw [zjw n Bool _ _ a b k m (Or.inl l1) (by omega)]
   cases q with
   | nil =>
    have l2:=zl h2
    show some (decide _)=some false
    by_cases hk:a.length<b.length
    · omega
    · rw [decide_eq_false (by omega)]
   | cons y q =>
    obtain ⟨l2,_,_⟩:=zk h2
    show some (decide _)=some true
    rw [decide_eq_true (by omega)]
  | cons x r ih =>
   intro q k m h1 h2 ka kb hm
   obtain ⟨l1,g1,t1⟩:=zk h1
   cases q with
   | nil =>
    have l2:=zl h2
    rw [zjw n Bool _ _ a b k m (Or.inr l2) (by omega)]
    show some (decide _)=some false
    rw [decide_eq_false (by omega)]
   | cons y q =>
    obtain ⟨l2,g2,t2⟩:=zk h2
    obtain ⟨m,rfl⟩:∃ p,m=p+1:=⟨m - 1,by simp at hm; omega⟩
    rw [F.z8.L2]
    unfold F.z8.L2.step
    dsimp only
    rw [zd (by omega),zd (by omega),zm,zm,g1,g2]
    simp only [za,blc]
    by_cases e:x=y
    · subst e
      rw [beq_self_eq_true,Bool.not_true,cond_false,zh (by omega),ih q (k+1) m t1 t2 (by omega) (by omega) (by simp at hm; omega)]
      have hx:¬ x<x:=by rw [zkc]; omega
      rw [decide_eq_false hx]; simp
    · have e':¬ ((x.toNat:Int))=(y.toNat:Int):=fun h=>e (zkd.2 (by omega))
      rw [beq_eq_false_iff_ne.2 e',Bool.not_false,cond_true,beq_eq_false_iff_ne.2 e]
      simp only [Bool.false_and,Bool.or_false,Option.some.injEq]
      apply decide_eq_decide.2
      rw [zkc]; omega
 unfold F.z8
 exact L a b 0 n rfl rfl (by omega) (by omega) hn
theorem zyt (n:Nat) (a b:TagL) (ha:TagLOK a) (hb:TagLOK b) (hn:200000≤n):F.zcl n (a.1,a.2,()) (b.1,b.2,())=some (ltT a b):=by
 unfold F.zcl ltT
 simp only
 rw [zl8 n a.1 b.1 (by have:=ha.1; omega) (by have:=hb.1; omega) (by have:=ha.1; omega),zl8 n a.2 b.2 (by have:=ha.2; omega) (by have:=hb.2; omega) (by have:=ha.2; omega)]
 simp only [za]
 by_cases e:a.1=b.1
 · rw [if_pos e,e,zce,beq_self_eq_true]; rfl
 · rw [if_neg e,beq_eq_false_iff_ne.2 e]
   cases Op.bytesLess a.1 b.1<;>rfl
def insD (t:TagL):List TagL→List TagL
 | []=>[t]
 | x::r=>if ltT x t then x::insD t r else if x=t then x::r else t::x::r
def normT (l:List TagL):List TagL:=l.foldl (fun o t=>insD t o) []
abbrev StrictT (l:List TagL):Prop:=l.Pairwise fun a b=>ltT a b=true
theorem zei (t:TagL):∀ (l:List TagL) (x:TagL),x∈insD t l↔x=t∨x∈l
 | [],x=>by simp [insD]
 | y :: r,x=>by
  unfold insD
  split
  · simp only [List.mem_cons,zei t r x]
    constructor
    · rintro (h | h | h)<;>simp [h]
    · rintro (h | h | h)<;>simp [h]
  · split
    · rename_i e
      subst e
      simp only [List.mem_cons]
      constructor
      · rintro (h | h)<;>simp [h]
      · rintro (h | h | h)<;>simp [h]
    · simp only [List.mem_cons]
theorem zgq (t:TagL):∀ (l:List TagL),StrictT l→StrictT (insD t l)
 | [],_=>by simp [insD,StrictT]
 | y :: r,h=>by
  obtain ⟨h1,h2⟩:=List.pairwise_cons.1 h
  unfold insD
  split
  · rename_i hy
    refine List.pairwise_cons.2 ⟨fun x hx => ?_,zgq t r h2⟩
    rcases (zei t r x).1 hx with rfl | hx
    · exact hy
    · exact h1 x hx
  · rename_i hy
    split
    · exact h
    · rename_i hne
      have hty:ltT t y=true:=by
       cases hc:ltT t y
       · exact absurd (zde (by simpa using hy) hc) hne
       · rfl
      refine List.pairwise_cons.2 ⟨fun x hx => ?_,h⟩
      rcases List.mem_cons.1 hx with rfl | hx
      · exact hty
      · exact zdd hty (h1 x hx)
theorem zcn:∀ (a b:List TagL),StrictT a→StrictT b→(∀ x,x∈a↔x∈b)→a=b
 | [],[],_,_,_=>rfl
 | [],y::b,_,_,h=>by have:=(h y).2 (by simp); cases this
 | x::a,[],_,_,h=>by have:=(h x).1 (by simp); cases this
 | x :: a,y::b,ha,hb,h=>by
  obtain ⟨h1,h2⟩:=List.pairwise_cons.1 ha
  obtain ⟨h3,h4⟩:=List.pairwise_cons.1 hb
  have e:x=y:=by
   rcases List.mem_cons.1 ((h x).1 (by simp)) with e | e
   · exact e
   · rcases List.mem_cons.1 ((h y).2 (by simp)) with e' | e'
     · exact e'.symm
     · have:=zjl (h1 y e'); rw [h3 x e] at this; cases this
  subst e
  rw [zcn a b h2 h4 (fun z => ?_)]
  have hx:=h z
  simp only [List.mem_cons] at hx
  constructor
  · intro hz
    rcases hx.1 (Or.inr hz) with rfl | h'
    · have:=h1 _ hz; rw [zcr] at this; cases this
    · exact h'
  · intro hz
    rcases hx.2 (Or.inr hz) with rfl | h'
    · have:=h3 _ hz; rw [zcr] at this; cases this
    · exact h'
theorem zej:∀ (l o:List TagL),StrictT o→StrictT (l.foldl (fun o t=>insD t o) o)∧∀ x,x∈l.foldl (fun o t=>insD t o) o↔x∈o∨x∈l
 | [],o,h=>⟨h,fun x=>by simp⟩
 | t::l,o,h=>by
  obtain ⟨h1,h2⟩:=zej l (insD t o) (zgq t o h)
  refine ⟨h1,fun x => ?_⟩
  rw [List.foldl_cons,h2 x,zei,List.mem_cons]
  constructor
  · rintro ((h | h) | h)<;>simp [h]
  · rintro (h | h | h)<;>simp [h]
theorem zb0 (l:List TagL):StrictT (normT l):=(zej l [] List.Pairwise.nil).1
theorem zck (l:List TagL) (x:TagL):x∈normT l↔x∈l:=by
 unfold normT; rw [(zej l [] List.Pairwise.nil).2 x]; simp
theorem zvk {l:List TagL} (h:StrictT l):normT l=l:=
 zcn _ _ (zb0 l) h (fun x=>zck l x)
theorem zek (t:TagL):∀ l,(insD t l).length≤l.length+1
 | []=>by simp [insD]
 | y::r=>by
  unfold insD
  have:=zek t r
  split
  · simp; omega
  · split<;>simp
theorem zdh (l:List TagL):(normT l).length≤l.length:=by
 have:∀ (l o:List TagL),(l.foldl (fun o t=>insD t o) o).length≤o.length+l.length:=by
  intro l
  induction l with
  | nil=>intro o; simp
  | cons t l ih=>intro o; have h1:=ih (insD t o); have h2:=zek t o; simp only [List.foldl_cons,List.length_cons]; omega
 have h:=this l []
 simp only [List.length_nil,Nat.zero_add] at h
 exact h
def dedF (D:List TagL) (t:TagL):List TagL:=if D.getLast? = some t then D else D++[t]
theorem zjx : ∀ (s D : List TagL),SortedT s→StrictT D→(∀ a∈D,∀ b∈s,ltT b a=false)→StrictT (s.foldl dedF D)∧∀ x,x∈s.foldl dedF D↔x∈D∨x∈s
 | [],D,_,h,_=>⟨h,fun x=>by simp⟩
 | t :: s, D, hs, hD, hb=>by
  obtain ⟨h1,h2⟩:=List.pairwise_cons.1 hs
  have key : StrictT (dedF D t)∧(∀ x,x∈dedF D t↔x∈D∨x=t):=by
   unfold dedF
   split
   · rename_i e
     have ht:t∈D:=List.mem_of_getLast? e
     exact ⟨hD,fun x=>⟨Or.inl,fun h=>h.elim id (fun e=>e▸ht)⟩⟩
   · rename_i e
     refine ⟨?_,fun x=>by simp⟩
     refine List.pairwise_append.2 ⟨hD,List.pairwise_singleton _ _,fun a ha b hb' => ?_⟩
     rw [List.mem_singleton.1 hb']
     have h0:=hb a ha t (by simp)
     cases hc:ltT a t
     · exfalso
       have:a=t:=zde hc h0
       subst this
       apply e
       have:∀ (D:List TagL),StrictT D→(∀ x∈D,ltT a x=false)→a∈D→D.getLast? = some a:=by
        intro D
        induction D with
        | nil=>intro _ _ h; cases h
        | cons y D ih =>
         intro hp hm hin
         obtain ⟨p1,p2⟩:=List.pairwise_cons.1 hp
         cases D with
         | nil => rcases List.mem_cons.1 hin with rfl | h
                  · rfl
                  · cases h
         | cons z D =>
          rw [List.getLast?_cons_cons]
          refine ih p2 (fun x hx=>hm x (List.mem_cons_of_mem _ hx)) ?_
          rcases List.mem_cons.1 hin with rfl | h
          · have:=p1 z (by simp); rw [hm z (by simp)] at this; cases this
          · exact h
       exact this D hD (fun x hx=>hb x hx a (by simp)) ha
     · rfl
  obtain ⟨k1,k2⟩:=key
  obtain ⟨f1,f2⟩:=zjx s (dedF D t) h2 k1 (fun a ha b hb'=>by
   rcases (k2 a).1 ha with ha | rfl
   · exact hb a ha b (List.mem_cons_of_mem _ hb')
   · exact h1 b hb')
  refine ⟨f1,fun x => ?_⟩
  rw [List.foldl_cons,f2 x,k2 x,List.mem_cons]
  constructor
  · rintro ((h | h) | h)<;>simp [h]
  · rintro (h | h | h)<;>simp [h]
theorem zvl (l:List TagL):(sortTags l).foldl dedF []=normT l:=by
 obtain ⟨h1,h2⟩:=zjx (sortTags l) [] (zbv l) List.Pairwise.nil (fun a ha=>by cases ha)
 refine zcn _ _ h1 (zb0 l) (fun x => ?_)
 rw [h2 x,zck,(za8 l).mem_iff]; simp
theorem zf5 {α:Type}:∀ (l:List α) (k:Nat) (x:α),upd l k x=l.set k x
 | [],_,_=>rfl
 | _::l,0,_=>rfl
 | _::l,k+1,x=>by simp [upd,zf5 l k x]
end Go.AM
set_option linter.unusedVariables false
set_option linter.unusedSimpArgs false
namespace Go.AM
theorem zl9 {α:Type} {L D:List α} {k:Nat} (h:L.take D.length=D) (hk:D.length=k+1):L[k]? = D.getLast?:=by
 rw [List.getLast?_eq_getElem?]
 have:D[D.length - 1]? = (L.take D.length)[D.length - 1]?:=by rw [h]
 rw [this,hk,List.getElem?_take]
 simp
theorem zvm {α:Type} {L D:List α} (x:α) (h:L.take D.length=D) (hk:D.length<L.length):(L.set D.length x).take (D++[x]).length=D++[x]:=by
 rw [List.length_append,List.length_singleton,List.take_add_one,List.take_set_of_le (Nat.le_refl _),h]
 simp [hk]
theorem zvn {α:Type} (L:List α) (i k:Nat) (x:α) (h:i≤k):(L.set i x).drop (k+1)=L.drop (k+1):=List.drop_set_of_lt (by omega)
theorem zr4 (n:Nat) (X:Type) (k0:(Nat×Nat)→Int→(Nat×List TagL)→(Nat×List TagL)→(Nat×List TagL)→Option X) (v N:Nat) (hN:N≤100000) (b0 b1:Nat×List TagL) :
 ∀ (r D L:List TagL) (i m:Nat),L.drop i=r→i≤N→r.length<m→D.length≤i→(i=0↔D=[])→L.length=N→L.take D.length=D →
 ∃ L',L'.take (r.foldl dedF D).length=r.foldl dedF D∧L'.length=N∧F.zy.L5 n k0 m (v,N) (D.length:Int) (v,N) (N:Int) (i:Int) b0 b1 (v,L)=k0 (v,N) ((r.foldl dedF D).length:Int) b0 b1 (v,L'):=by
 intro r
 induction r with
 | nil =>
  intro D L i m hr hi hm hD h0 hL hT
  obtain ⟨m,rfl⟩:∃ p,m=p+1:=⟨m - 1,by omega⟩
  refine ⟨L,hT,hL,?_⟩
  rw [F.zy.L5]
  unfold F.zy.L5.step
  dsimp only
  rw [ze (by have:=zl hr; omega)]
  rfl
 | cons x r ih =>
  intro D L i m hr hi hm hD h0 hL hT
  obtain ⟨m,rfl⟩:∃ p,m=p+1:=⟨m - 1,by simp at hm; omega⟩
  obtain ⟨l1,g1,t1⟩:=zk hr
  have hw:IntKind.wrap .i64 ((D.length:Int)+1)=((D.length+1:Nat):Int):=zh (by omega)
  have hput:∃ L',L'.take (r.foldl dedF (D++[x])).length=r.foldl dedF (D++[x])∧L'.length=N∧F.zy.L5 n k0 m (v,N) (((D++[x]).length:Nat):Int) (v,N) (N:Int) ((i+1:Nat):Int) b0 b1 (v,L.set D.length x)=k0 (v,N) ((r.foldl dedF (D++[x])).length:Int) b0 b1 (v,L'):=
   ih (D++[x]) (L.set D.length x) (i+1) m (by rw [zvn L D.length i x hD]; exact t1) (by omega) (by simp at hm; omega) (by simp; omega) (by simp) (by simpa using hL) (zvm x hT (by omega))
  rw [F.zy.L5]
  unfold F.zy.L5.step
  dsimp only
  rw [List.foldl_cons]
  have hb1:(decide ((0:Int)≤(i:Int))&&decide ((i:Int)<(N:Int)))=true:=by simp; omega
  have hb2:(decide ((0:Int)≤(D.length:Int))&&decide ((D.length:Int)<(N:Int)))=true:=by simp; omega
  have hbe:Nat.beq v v=true:=Nat.beq_refl v
  rw [zd (by omega:(i:Int)<(N:Int)),hb1,hbe,cond_true,cond_true,zm,g1,za,zh (by omega:i<4611686018427387904)]
  by_cases hi0:i=0
  · have hD0:=h0.1 hi0
    have e0:((i:Int)==0)=true:=by simp [hi0]
    rw [e0,cond_true,hb2,cond_true,cond_true,zcf (by omega:D.length<L.length),za,hw,Int.toNat_natCast,zf5]
    have hd:dedF D x=D++[x]:=by rw [hD0]; rfl
    rw [hd]
    obtain ⟨L',q1,q2,q3⟩:=hput
    refine ⟨L',q1,q2,?_⟩
    rw [← q3,List.length_append,List.length_singleton]
  · have e0:((i:Int)==0)=false:=by simpa using hi0
    have hne:D≠[]:=fun h=>hi0 (h0.2 h)
    have hpos:0<D.length:=List.length_pos_iff.2 hne
    have hwp:IntKind.wrap .i64 ((D.length:Int) - 1)=((D.length - 1:Nat):Int):=by rw [zi (by omega)]; omega
    have hb3:(decide ((0:Int)≤((D.length - 1:Nat):Int))&&decide (((D.length - 1:Nat):Int)<(N:Int)))=true:=by simp; omega
    obtain ⟨y,hy⟩:∃ y,D.getLast? = some y:=⟨_,List.getLast?_eq_some_getLast hne⟩
    have gl:L[D.length - 1]? = some y:=by rw [zl9 hT (by omega),hy]
    rw [e0,cond_false,hwp,hb3,cond_true,cond_true,zm,gl,za,zg6]
    by_cases hxy:x=y
    · rw [decide_eq_true hxy,Bool.not_true,cond_false]
      have hd:dedF D x=D:=by unfold dedF; rw [hy,hxy,if_pos rfl]
      rw [hd]
      exact ih D L (i+1) m t1 (by omega) (by simp at hm; omega) (by omega) (by simp [hne]) hL hT
    · rw [decide_eq_false hxy,Bool.not_false,cond_true,hb2,cond_true,cond_true,zcf (by omega:D.length<L.length),za,hw,Int.toNat_natCast,zf5]
      have hd:dedF D x=D++[x]:=by unfold dedF; rw [hy,if_neg (by simpa using fun h:y=x=>hxy h.symm)]
      rw [hd]
      obtain ⟨L',q1,q2,q3⟩:=hput
      refine ⟨L',q1,q2,?_⟩
      rw [← q3,List.length_append,List.length_singleton]
theorem zyu (n:Nat) (l:List TagL):F.zt n l=some l:=by
 unfold F.zt
 rw [beq_self_eq_true,cond_true,show (0:Int)=((0:Nat):Int) from rfl,zo l 0 l.length (by omega) (by omega)]
 simp
theorem zg7 (n:Nat) (hn:200000≤n) (l:List TagL) (hl:l.length≤100000) (v:Nat) (b0 b1:Nat×List TagL) :
 F.zy.L5 n (fun (e11_3:Nat×Nat) (e11_4:Int) (e11_b0_0 e11_b1_0 e11_b2_0:Nat×List TagL) =>
  bif Nat.beq e11_3.1 e11_b2_0.1 then
   (sub e11_b2_0.2 (0:Int) e11_4).bind fun x12 =>
    (F.zt n x12).bind fun y13 =>
     some (y13)
  else
   none) n (v,l.length) (0:Int) (v,l.length) (l.length:Int) (0:Int) b0 b1 (v,sortTags l)=some (normT l):=by
 obtain ⟨L', q1,q2,q3⟩:=zr4 n _ (fun (e11_3:Nat×Nat) (e11_4:Int) (e11_b0_0 e11_b1_0 e11_b2_0:Nat×List TagL) =>
         bif Nat.beq e11_3.1 e11_b2_0.1 then
          (sub e11_b2_0.2 (0:Int) e11_4).bind fun x12 =>
           (F.zt n x12).bind fun y13 =>
            some (y13)
         else
          none) v l.length hl b0 b1 (sortTags l) [] (sortTags l) 0 n rfl (by omega) (by rw [zbd]; omega) (by simp) (by simp) (zbd l) rfl
 refine q3.trans ?_
 rw [zvl] at q1 ⊢
 dsimp only
 rw [Nat.beq_refl,cond_true,show (0:Int)=((0:Nat):Int) from rfl,zo L' 0 _ (by omega) (by rw [q2]; exact zdh l),q1]
 simp only [za,List.drop_zero,zyu]
theorem zfp (n:Nat) (hn:200000≤n) (l:List TagL) (hl:l.length≤100000):F.zy n l=some (normT l):=by
 have e1:(decide ((0+l.length)*32≤2 ^ 46)&&decide (0<32∧32≤2 ^ 20))=true:=by
  rw [decide_eq_true (by omega)]; rfl
 have e2:∀ l:List TagL,l.length≤100000→(Nat.beq (sortTags l).length l.length&&Nat.blt l.length strMax)=true:=by
  intro l hl
  rw [zbd,Nat.beq_refl,Bool.true_and,zj]
  exact Nat.ble_eq▸(by omega:l.length+1≤4611686018427387904)
 unfold F.zy
 rw [List.nil_append,e1,cond_true,e2 l hl,cond_true]
 cases l with
 | nil =>
  have h1:=zg7 n hn [] (by simp) 1 (1,[]) (1,[])
  have h2:=zg7 n hn [] (by simp) 2 (1,[]) (1,[])
  refine Eq.trans (b:=both (some (normT [])) (some (normT []))) ?_ (ziu _)
  rw [List.isEmpty_nil,cond_true]
  congr 1
 | cons t l =>
  exact zg7 n hn (t::l) hl 2 (1,[]) (1,[])
theorem zbj {X:Type} {v:List TagL} (h:v.length≤100000) (y:Option X):(bif decide ((v.length+1)*32≤2 ^ 46)&&decide (0<32∧32≤2 ^ 20) then y else none)=y:=by
 rw [decide_eq_true (by omega)]; rfl
theorem zma (n:Nat) (X:Type) (k2:List TagL→Int→List TagL→Bool→Nat→Option X) (l out:List TagL) (i:Int) (hl:out.length≤100000) (vk0:Nat):∀ (r more:List TagL) (k m:Nat),out.drop k=r→r.length<m→more.length+r.length≤50000 →
 F.zh.L8 n k2 m l out i more true (k:Int) vk0 more.length=k2 l i (more++r) true (more++r).length:=by
 intro r
 induction r with
 | nil =>
  intro more k m h1 hm hs
  obtain ⟨m,rfl⟩:∃ p,m=p+1:=⟨m - 1,by omega⟩
  rw [F.zh.L8]
  unfold F.zh.L8.step
  dsimp only
  rw [ze (by have:=zl h1; omega),List.append_nil]
 | cons x r ih =>
  intro more k m h1 hm hs
  obtain ⟨m,rfl⟩:∃ p,m=p+1:=⟨m - 1,by simp at hm; omega⟩
  obtain ⟨l1,g1,t1⟩:=zk h1
  simp only [List.length_cons] at hs hm
  rw [F.zh.L8]
  unfold F.zh.L8.step
  dsimp only
  rw [zd (by omega),Bool.not_true,cond_false,zm,g1,za,zbj (by omega),Nat.beq_refl,cond_true,zh (by omega)]
  rw [ih (more++[x]) (k+1) m t1 (by omega) (by simp; omega)]
  simp
theorem zr5 (n:Nat) (hn:200000≤n) (X:Type) (k2:List TagL→Int→List TagL→Bool→Nat→Option X) (l out:List TagL) (i:Nat) (t:TagL) (hi:l[i]? = some t) (ht:TagLOK t) (ho:∀ x∈out,TagLOK x) (hl:out.length≤100000) (vk0:Nat):∀ (r more:List TagL) (k m:Nat),out.drop k=r→r.length<m→more.length+r.length≤40000 →
 ∃ p M,F.zh.L8 n k2 m l out (i:Int) more false (k:Int) vk0 more.length=k2 l (i:Int) M p M.length∧(bif p then M else M++[t])=more++insD t r∧M.length≤more.length+r.length+1:=by
 intro r
 induction r with
 | nil =>
  intro more k m h1 hm hs
  obtain ⟨m,rfl⟩:∃ p,m=p+1:=⟨m - 1,by omega⟩
  refine ⟨false,more,?_,rfl,by simp⟩
  rw [F.zh.L8]
  unfold F.zh.L8.step
  dsimp only
  rw [ze (by have:=zl h1; omega)]
 | cons x r ih =>
  intro more k m h1 hm hs
  obtain ⟨m,rfl⟩:∃ p,m=p+1:=⟨m - 1,by simp at hm; omega⟩
  obtain ⟨l1,g1,t1⟩:=zk h1
  simp only [List.length_cons] at hs hm
  have hx:TagLOK x:=ho x (List.mem_of_getElem? g1)
  rw [F.zh.L8]
  unfold F.zh.L8.step
  dsimp only
  rw [zd (by omega),Bool.not_false,cond_true,zm,zm,g1,hi]
  simp only [za,zyt n x t hx ht hn]
  cases hlt:ltT x t
  · rw [Bool.not_false,cond_true,zg6,zh (by omega)]
    unfold insD
    rw [hlt,if_neg (by simp)]
    by_cases e:x=t
    · rw [decide_eq_true e,Bool.not_true,cond_false,zbj (by omega),Nat.beq_refl,cond_true,if_pos e]
      refine ⟨true,_,zma n X k2 l out i hl vk0 r (more++[x]) (k+1) m t1 (by omega) (by simp; omega),by simp,by simp⟩
    · rw [decide_eq_false e,Bool.not_false,cond_true,zbj (by omega),Nat.beq_refl,cond_true,zbj (by simp; omega),Nat.beq_refl,cond_true,if_neg e]
      refine ⟨true,_,zma n X k2 l out i hl vk0 r ((more++[t])++[x]) (k+1) m t1 (by omega) (by simp; omega),by simp,by simp; omega⟩
  · rw [Bool.not_true,cond_false,zbj (by omega),Nat.beq_refl,cond_true,zh (by omega)]
    obtain ⟨p,M,q1,q2,q3⟩:=ih (more++[x]) (k+1) m t1 (by omega) (by simp; omega)
    refine ⟨p,M,q1,?_,by simp only [List.length_append,List.length_cons,List.length_nil] at q3 ⊢; omega⟩
    rw [q2,insD,hlt,if_pos rfl]
    simp
theorem zr6 (n:Nat) (hn:200000≤n) (X:Type) (k0:List TagL→Nat→Option X) (l:List TagL) (hl:l.length≤10000) (hok:∀ t∈l,TagLOK t):∀ (r out:List TagL) (i m:Nat),l.drop i=r→r.length<m→out.length≤i→(∀ x∈out,x∈l) →
 F.zh.L3 n k0 m l out (i:Int) out.length=k0 (r.foldl (fun o t=>insD t o) out) (r.foldl (fun o t=>insD t o) out).length:=by
 intro r
 induction r with
 | nil =>
  intro out i m h1 hm ho hmem
  obtain ⟨m,rfl⟩:∃ p,m=p+1:=⟨m - 1,by omega⟩
  rw [F.zh.L3]
  unfold F.zh.L3.step
  dsimp only
  rw [ze (by have:=zl h1; omega)]
  rfl
 | cons t r ih =>
  intro out i m h1 hm ho hmem
  obtain ⟨m,rfl⟩:∃ p,m=p+1:=⟨m - 1,by simp at hm; omega⟩
  obtain ⟨l1,g1,t1⟩:=zk h1
  have ht:t∈l:=List.mem_of_getElem? g1
  rw [F.zh.L3]
  unfold F.zh.L3.step
  dsimp only
  rw [zd (by omega)]
  obtain ⟨p,M,q1,q2,q3⟩:=zr5 n (by omega) X _ l out i t g1 (hok t ht) (fun x hx=>hok x (hmem x hx)) (by omega) out.length out [] 0 n rfl (by omega) (by simp; omega)
  refine q1.trans ?_
  simp only [List.length_nil,Nat.zero_add,List.nil_append] at q2 q3
  have hwi:IntKind.wrap .i64 ((i:Int)+1)=((i+1:Nat):Int):=zh (by omega)
  have hin:∀ x∈insD t out,x∈l:=fun x hx=>by
   rcases (zei t out x).1 hx with rfl | h
   · exact ht
   · exact hmem x h
  rw [List.foldl_cons,hwi]
  cases p
  · rw [Bool.not_false,cond_true,zm,g1,za,zbj (by omega),Nat.beq_refl,cond_true]
    have q2:M++[t]=insD t out:=q2
    have e:M++[(t.1,t.2)]=insD t out:=q2
    rw [e]
    exact ih (insD t out) (i+1) m t1 (by simp at hm; omega) (by have:=zek t out; omega) hin
  · rw [Bool.not_true,cond_false]
    have q2:M=insD t out:=q2
    rw [q2]
    exact ih (insD t out) (i+1) m t1 (by simp at hm; omega) (by have:=zek t out; omega) hin
theorem zc6 (n:Nat) (hn:200000≤n) (l:List TagL) (hl:l.length≤10000) (hok:∀ t∈l,TagLOK t):F.zh n l=some (normT l):=by
 unfold F.zh
 exact zr6 n hn _ _ l hl hok l [] 0 n rfl (by omega) (by simp) (fun x hx=>by cases hx)
end Go.AM
set_option linter.unusedVariables false
set_option linter.unusedSimpArgs false
namespace Go.AM
theorem zpl {d:List UInt8} (hD:Digs d) (neg:Bool) (E:Int):((valR neg d E).2.1=10∧(valR neg d E).1=(false,0,0,())) ∨
 (∃ (neg':Bool) (c:Nat) (e:Int),valR neg d E=((neg',(c:Int),e,()),0,())∧c<two64∧(-9223372036854775808≤e∧e≤9223372036854775807)∧checkR neg' c e=0):=by
 by_cases hv:val d=0
 · refine Or.inr ⟨false,0,0,?_,by decide,by omega,?_⟩
   · have:valR neg d E=zeroD:=by unfold valR; rw [if_pos hv]
     rw [this]; rfl
   · have d0:Lib.decDigits 0=[48]:=zb6 (by omega)
     unfold checkR
     rw [d0]; rfl
 · obtain ⟨c0,z,h1,h2⟩:=zch (val d) (by omega)
   rw [zah hD h2 h1]
   generalize E+(z:Int)=Y
   by_cases hY:Y < -18
   · refine Or.inl ?_
     have:normR neg c0 Y=((false,0,0,()),10,()):=by unfold normR; rw [if_pos hY]
     rw [this]
     exact ⟨rfl,rfl⟩
   · by_cases hf:c0*10 ^ (Y - 18).toNat<two64
     · have e1:normR neg c0 Y=((neg,((c0*10 ^ (Y - 18).toNat:Nat):Int),(if Y≤18 then Y else 18),()),0,()):=by unfold normR; rw [if_neg hY,if_pos hf]
       rw [e1]
       have hE : -18≤(if Y≤18 then Y else 18)∧(if Y≤18 then Y else 18)≤18:=by split<;>omega
       refine Or.inr ⟨neg,c0*10 ^ (Y - 18).toNat,(if Y≤18 then Y else 18),rfl,hf,by omega,?_⟩
       unfold checkR
       rw [if_neg (by omega),zah (zax _) h2 (zbx _)]
       have e2:(if Y≤18 then Y else 18)+(((Y - 18).toNat:Nat):Int)=Y:=by split<;>omega
       rw [e2,e1,if_pos ⟨rfl,rfl⟩]
     · refine Or.inl ?_
       have:normR neg c0 Y=((false,0,0,()),10,()):=by unfold normR; rw [if_neg hY,if_neg hf]
       rw [this]
       exact ⟨rfl,rfl⟩
def decV (d:DecL):DecR:=valR d.1 (Lib.decDigits d.2.1.toNat) d.2.2
def valOK (d:DecL):Bool:=(decV d).2.1==0
def refV (d:DecL):DecL:=((decV d).1.1,(decV d).1.2.1,(decV d).1.2.2.1)
def normV (d:DecL):DecL:=if valOK d then refV d else d
theorem zyv (n:Nat) (hn:100≤n) {d:DecL} (h:DecLOK d):F.zf n (d.1,d.2.1,d.2.2,())=some (decV d):=by
 obtain ⟨neg,c,e,rfl,hc,he⟩:=za5 h
 exact zdg n hn neg c hc e he
theorem zvo (n:Nat) (hn:200000≤n) {d:DecL} (h:DecLOK d):F.zb4 n (d.1,d.2.1,d.2.2,())=some (decV d):=by
 obtain ⟨neg,c,e,rfl,hc,he⟩:=za5 h
 unfold F.zb4 decV
 have hl:=za3 hc
 simp only [digits03 n (by omega) c hc,zik n hn neg _ (zax c) (by omega) e,za,Int.toNat_natCast]
 rcases zfj neg (Lib.decDigits c) e with h | ⟨h1,h2⟩
 · rw [h]
   generalize valR neg (Lib.decDigits c) e=r at h ⊢
   obtain ⟨r1,r2,_⟩:=r
   simp only at h
   subst h
   rfl
 · rw [h1]
   generalize valR neg (Lib.decDigits c) e=r at h1 h2 ⊢
   obtain ⟨r1,r2,_⟩:=r
   simp only at h1 h2
   subst h1 h2
   rfl
theorem zdi {d:DecL} (h:valOK d=true):normV d=refV d∧decC (normV d)=0∧DecLOK (normV d):=by
 have e:normV d=refV d:=by unfold normV; rw [if_pos h]
 refine ⟨e,?_⟩
 rw [e]
 unfold refV
 unfold valOK at h
 rcases zpl (zax d.2.1.toNat) d.1 d.2.2 with ⟨h1,_⟩ | ⟨neg,c,e,h1,h2,h3,h4⟩
 · exfalso
   have h1:(decV d).2.1=10:=h1
   rw [h1] at h; cases h
 · have h1:decV d=((neg,(c:Int),e,()),0,()):=h1
   rw [h1]
   refine ⟨h4,trivial,⟨by simp,?_⟩,h3⟩
   have:=zz; simp only; omega
theorem zfq {d:DecL} (hd:DecLOK d) (h:valOK d=false):normV d=d∧decC d≠0:=by
 refine ⟨by unfold normV; rw [if_neg (by rw [h]; simp)],fun h0 => ?_⟩
 obtain ⟨neg,c,e,rfl,hc,he⟩:=za5 hd
 have hh:decV (neg,(c:Int),e)=((neg,(c:Int),e,()),0,()):=(zby h0).1
 unfold valOK at h
 rw [hh] at h
 cases h
theorem zvp {d:DecL} (hd:DecLOK d) (h0:decC d=0):valOK d=true∧normV d=d:=by
 obtain ⟨neg,c,e,rfl,hc,he⟩:=za5 hd
 have hv:=(zby h0).1
 have h1:decV (neg,(c:Int),e)=((neg,(c:Int),e,()),0,()):=hv
 have h2:valOK (neg,(c:Int),e)=true:=by unfold valOK; rw [h1]; rfl
 refine ⟨h2,?_⟩
 unfold normV refV
 rw [if_pos h2,h1]
theorem zvq {d:DecL} (hd:DecLOK d):DecLOK (normV d):=by
 cases h:valOK d
 · rw [(zfq hd h).1]; exact hd
 · exact (zdi h).2.2
theorem zjy {vs:List DecL} (h:∀ d∈vs,DecLOK d):((vs.map normV).all fun d=>decC d==0)=vs.all valOK:=by
 induction vs with
 | nil=>rfl
 | cons d vs ih =>
  rw [List.map_cons,List.all_cons,List.all_cons,ih (fun x hx=>h x (List.mem_cons_of_mem _ hx))]
  congr 1
  cases hv:valOK d
  · obtain ⟨h1,h2⟩:=zfq (h d (by simp)) hv
    rw [h1]; exact beq_eq_false_iff_ne.2 h2
  · rw [(zdi hv).2.1]; rfl
def zeroM:MetD:=([],(0:Int),[],(0:Int),[],(0:Int),())
def valsM (m:MetD):MetD:=(m.1,m.2.1,m.2.2.1.map normV,m.2.2.2.1,m.2.2.2.2.1,m.2.2.2.2.2.1,())
def formM (m:MetD):MetD:=(m.1,m.2.1,m.2.2.1.map normV,m.2.2.2.1,normT m.2.2.2.2.1,m.2.2.2.2.2.1,())
def normM (m:MetD):MetD×Int×Unit:=if chkM (valsM m)=0 then (formM m,0,()) else (zeroM,chkM (valsM m),())
theorem zmb {m:MetD} (hm:MetOK m):MetOK (valsM m):=by
 refine ⟨hm.1,⟨by rw [valsM]; simpa using hm.2.1.1,fun d hd => ?_⟩,hm.2.2⟩
 obtain ⟨x,hx,rfl⟩:=List.mem_map.1 hd
 exact zvq (hm.2.1.2 x hx)
theorem zmc (m:MetD) (h:∀ d∈m.2.2.1,DecLOK d):chkM (valsM m)=restM m (m.2.2.1.all valOK):=by
 rw [zlw,← zjy h]
 unfold restM valsM
 simp only [List.length_map]
theorem zr7 {α:Type} (p r:List α) (x y:α):upd (p++x::r) p.length y=p++y::r:=by
 rw [zf5,List.set_append_right _ _ (Nat.le_refl _),Nat.sub_self]; rfl
theorem zr8 (n:Nat) (hn:200000≤n) (X:Type) (k0:(Nat×Nat)→List UInt8→Int→List DecL→Int→List TagL→Int→List UInt8→Int→List DecL→Int→List TagL→Int→(Nat×List DecL)→(Nat×List DecL)→Nat→Nat→Option X)
 (b00:List UInt8) (b01:Int) (b02:List DecL) (b03:Int) (b04:List TagL) (b05:Int) (b10:List UInt8) (b11:Int) (b12:List DecL) (b13:Int) (b14:List TagL) (b15:Int) (b2:Nat×List DecL) (k1 k2:Nat) (v N:Nat) (hN:N≤10000) :
 ∀ (r p:List DecL) (i m:Nat),i+r.length=N→p.length=i→r.length<m→(∀ d∈r,DecLOK d) →
 F.zn.L3 n k0 m (v,N) (v,N) (N:Int) (i:Int) b00 b01 b02 b03 b04 b05 b10 b11 b12 b13 b14 b15 b2 (v,p++r) k1 k2=k0 (v,N) b00 b01 b02 b03 b04 b05 b10 b11 b12 b13 b14 b15 b2 (v,p++r.map normV) k1 k2:=by
 intro r
 induction r with
 | nil =>
  intro p i m h1 h2 hm hok
  obtain ⟨m,rfl⟩:∃ q,m=q+1:=⟨m - 1,by omega⟩
  rw [F.zn.L3]
  unfold F.zn.L3.step
  dsimp only
  rw [ze (by simp at h1; omega)]
  rfl
 | cons x r ih =>
  intro p i m h1 h2 hm hok
  obtain ⟨m,rfl⟩:∃ q,m=q+1:=⟨m - 1,by simp at hm; omega⟩
  simp only [List.length_cons] at h1 hm
  have hx:=hok x (by simp)
  have hp:(p++x::r)[i]? = some x:=by rw [← h2]; simp
  have hb1:(decide ((0:Int)≤(i:Int))&&decide ((i:Int)<(N:Int)))=true:=by simp; omega
  rw [F.zn.L3]
  unfold F.zn.L3.step
  dsimp only
  rw [zd (by omega:(i:Int)<(N:Int)),hb1,Nat.beq_refl,cond_true,cond_true,zm,hp,za,zyv n (by omega) hx,za,zh (by omega)]
  have step:∀ y,y=normV x→F.zn.L3 n k0 m (v,N) (v,N) (N:Int) ((i+1:Nat):Int) b00 b01 b02 b03 b04 b05 b10 b11 b12 b13 b14 b15 b2 (v,p++y::r) k1 k2=k0 (v,N) b00 b01 b02 b03 b04 b05 b10 b11 b12 b13 b14 b15 b2 (v,p++(x::r).map normV) k1 k2:=by
   intro y hy
   have:=ih (p++[y]) (i+1) m (by omega) (by simp; omega) (by omega) (fun d hd=>hok d (List.mem_cons_of_mem _ hd))
   rw [List.append_assoc,List.append_assoc,List.singleton_append,List.singleton_append] at this
   rw [this,hy,List.map_cons]
  cases hv:valOK x
  · have hv':((decV x).2.1==0)=false:=hv
    rw [hv',cond_false]
    exact step x (zfq hx hv).1.symm
  · have hv':((decV x).2.1==0)=true:=hv
    rw [hv',cond_true,cond_true,cond_true,za,Int.toNat_natCast,← h2,zr7,h2]
    exact step _ (zdi hv).1.symm
theorem zmd (n:Nat) (hn:200000≤n) (m:MetD) (hm:MetOK m) (v:Nat) (b10:List UInt8) (b11:Int) (b12:List DecL) (b13:Int) (b14:List TagL) (b15:Int) (b2:Nat×List DecL) (k1 k2:Nat) :
 F.zn.L3 n
  (fun e4_4 e4_b0_0 e4_b0_1 e4_b0_2 e4_b0_3 e4_b0_4 e4_b0_5 e4_b1_0 e4_b1_1 e4_b1_2 e4_b1_3 e4_b1_4 e4_b1_5 e4_b2_0 e4_b3_0 e4_k0 e4_k1 =>
   bif Nat.beq e4_4.1 e4_b3_0.1 then
    (F.zv n (e4_b0_0,e4_b0_1,e4_b3_0.2,e4_b0_3,e4_b0_4,e4_b0_5,())).bind fun y5 =>
     bif !(y5==(0:Int)) then
      some ((([],(0:Int),[],(0:Int),[],(0:Int),()),y5,()))
     else
      (F.zy n e4_b0_4).bind fun y6 =>
       some (((e4_b0_0,e4_b0_1,e4_b3_0.2,e4_b0_3,y6,e4_b0_5,()),(0:Int),()))
   else
    none) n (v,m.2.2.1.length) (v,m.2.2.1.length) (m.2.2.1.length:Int) (0:Int) m.1 m.2.1 m.2.2.1 m.2.2.2.1 m.2.2.2.2.1 m.2.2.2.2.2.1 b10 b11 b12 b13 b14 b15 b2 (v,m.2.2.1) k1 k2=some (normM m):=by
 refine (zr8 n hn _ _ m.1 m.2.1 m.2.2.1 m.2.2.2.1 m.2.2.2.2.1 m.2.2.2.2.2.1 b10 b11 b12 b13 b14 b15 b2 k1 k2 v m.2.2.1.length (by have:=hm.2.1.1; omega) m.2.2.1 [] 0 n (by omega) rfl (by have:=hm.2.1.1; omega) hm.2.1.2).trans ?_
 dsimp only
 rw [Nat.beq_refl,cond_true]
 have hc:F.zv n (m.1,m.2.1,[]++m.2.2.1.map normV,m.2.2.2.1,m.2.2.2.2.1,m.2.2.2.2.2.1,())=some (chkM (valsM m)):=zgm n hn (valsM m) (zmb hm)
 rw [hc,za]
 unfold normM
 by_cases h:chkM (valsM m)=0
 · rw [if_pos h,h,zfp n hn _ (by have:=hm.2.2.1; omega)]
   rfl
 · rw [if_neg h,beq_eq_false_iff_ne.2 h]
   rfl
theorem zfr (n:Nat) (hn:200000≤n) (m:MetD) (hm:MetOK m):F.zn n m=some (normM m):=by
 have hl:=hm.2.1.1
 have e1:(decide ((0+m.2.2.1.length)*24≤2 ^ 46)&&decide (0<24∧24≤2 ^ 20))=true:=by
  rw [decide_eq_true (by omega)]; rfl
 unfold F.zn
 rw [e1,cond_true]
 have h2:=zmd n hn m hm 2 [] 0 [] 0 [] 0 (1,[]) 0 0
 cases hv:m.2.2.1 with
 | nil =>
  have h1:=zmd n hn m hm 1 [] 0 [] 0 [] 0 (1,[]) 0 0
  rw [hv] at h1 h2
  refine Eq.trans (b:=both (some (normM m)) (some (normM m))) ?_ (ziu _)
  rw [List.isEmpty_nil,cond_true]
  exact congr (congrArg both h1) h2
 | cons d vs =>
  rw [hv] at h2
  exact h2
theorem zel {X:Type} {v:List DecL} (h:v.length≤100000) (y:Option X):(bif decide ((v.length+1)*24≤2 ^ 46)&&decide (0<24∧24≤2 ^ 20) then y else none)=y:=by
 rw [decide_eq_true (by omega)]; rfl
theorem zr9 (n:Nat) (hn:200000≤n) (X:Type) (k0:Bool→List DecL→List UInt8→Int→List DecL→Int→List TagL→Int→List UInt8→Int→List DecL→Int→List TagL→Int→Nat→Nat→Nat→Option X)
 (b00:List UInt8) (b01:Int) (b02:List DecL) (hl:b02.length≤10000) (b03:Int) (b04:List TagL) (b05:Int) (b10:List UInt8) (b11:Int) (b12:List DecL) (b13:Int) (b14:List TagL) (b15:Int) (k1 k2:Nat) :
 ∀ (r:List DecL) (ok:Bool) (acc:List DecL) (i m:Nat),b02.drop i=r→acc.length=i→i≤b02.length→r.length<m→(∀ d∈r,DecLOK d) →
 F.zad.L4 n k0 m ok acc (i:Int) b00 b01 b02 b03 b04 b05 b10 b11 b12 b13 b14 b15 acc.length k1 k2=k0 (ok&&r.all valOK) (acc++r.map refV) b00 b01 b02 b03 b04 b05 b10 b11 b12 b13 b14 b15 (acc++r.map refV).length k1 k2:=by
 intro r
 induction r with
 | nil =>
  intro ok acc i m h1 h2 hi hm hok
  obtain ⟨m,rfl⟩:∃ q,m=q+1:=⟨m - 1,by omega⟩
  rw [F.zad.L4]
  unfold F.zad.L4.step
  dsimp only
  rw [ze (by have:=zl h1; omega)]
  simp
 | cons x r ih =>
  intro ok acc i m h1 h2 hi hm hok
  obtain ⟨m,rfl⟩:∃ q,m=q+1:=⟨m - 1,by simp at hm; omega⟩
  obtain ⟨l1,g1,t1⟩:=zk h1
  simp only [List.length_cons] at hm
  have hx:=hok x (by simp)
  have hih:=fun ok'=>ih ok' (acc++[refV x]) (i+1) m t1 (by simp; omega) (by omega) (by omega) (fun d hd=>hok d (List.mem_cons_of_mem _ hd))
  rw [F.zad.L4]
  unfold F.zad.L4.step
  dsimp only
  rw [zd (by omega),zm,g1,za,zvo n hn hx,za,zh (by omega),List.all_cons,List.map_cons,Nat.beq_refl]
  rw [zel (by omega),zel (by omega),cond_true,cond_true]
  have e:∀ k:List DecL,acc++[refV x]++k=acc++refV x::k:=fun k=>by simp
  cases ok
  · rw [cond_false]
    have:=hih false
    rw [e] at this
    refine this.trans ?_
    rw [Bool.false_and,Bool.false_and]
  · rw [cond_true]
    have:=hih (valOK x)
    rw [e] at this
    refine this.trans ?_
    rw [Bool.true_and]
theorem zj9 (n:Nat) (hn:200000≤n) (m:MetD) (hm:MetOK m):F.zad n m=some (normM m):=by
 unfold F.zad
 refine (zr9 n hn _ _ m.1 m.2.1 m.2.2.1 (by have:=hm.2.1.1; omega) m.2.2.2.1 m.2.2.2.2.1 m.2.2.2.2.2.1 [] 0 [] 0 [] 0 0 0 m.2.2.1 true [] 0 n rfl rfl (by omega) (by have:=hm.2.1.1; omega) hm.2.1.2).trans ?_
 rw [Bool.true_and,List.nil_append]
 have hc:F.z6 n (m.1,m.2.1,m.2.2.1,m.2.2.2.1,m.2.2.2.2.1,m.2.2.2.2.2.1,()) (m.2.2.1.all valOK)=some (restM m (m.2.2.1.all valOK)):=zlx n hn m hm.1 hm.2.2.1 hm.2.2.2 _
 rw [hc,za]
 unfold normM
 rw [zmc m hm.2.1.2]
 by_cases h:restM m (m.2.2.1.all valOK)=0
 · rw [if_pos h,h,zc6 n hn _ (by have:=hm.2.2.1; omega) hm.2.2.2,za]
   have ha:m.2.2.1.all valOK=true:=by
    rw [← zmc m hm.2.1.2] at h
    have:=(za7 h).2.2.1
    unfold valsB valsM at this
    simp only [Bool.and_eq_true] at this
    rw [← zjy hm.2.1.2]
    exact this.2.2
   have he:m.2.2.1.map refV=m.2.2.1.map normV:=by
    apply List.map_congr_left
    intro d hd
    exact (zdi (List.all_eq_true.1 ha d hd)).1.symm
   rw [he]
   rfl
 · rw [if_neg h,beq_eq_false_iff_ne.2 h]
   rfl
end Go.AM
set_option linter.unusedVariables false
set_option linter.unusedSimpArgs false
namespace Go.AM
def TagS (t:TagL):Prop:=t.1.length≤1000∧t.2.length≤1000
theorem zh1 {c:Int} {s:List UInt8} {lo hi:Int} (h:(textF c s lo hi).1=0):lo≤(s.length:Int)∧(s.length:Int)≤hi∧s.all (cls c)=true:=by
 unfold textF at h
 split at h
 · cases h
 · split at h
   · cases h
   · split at h
     · cases h
     · split at h
       · cases h
       · rename_i h1 h2 h3 h4
         exact ⟨by omega,by omega,Classical.byContradiction fun hh=>h4 ((zcx _ _ _).2 hh)⟩
theorem zcs {t:TagL} (h:tagGood t=true):TagS t:=by
 unfold tagGood at h
 simp only [Bool.and_eq_true,beq_iff_eq] at h
 have h1:=zh1 h.1
 have h2:=zh1 h.2
 exact ⟨by omega,by omega⟩
theorem growS {X:Type} {a b:Nat} (h:a+b≤1000000) (y:Option X):(bif decide (a+b≤strMax) then y else none)=y:=by
 rw [decide_eq_true (by rw [zj]; omega)]; rfl
theorem growB {X:Type} {a b:Nat} (h:a+b≤1000000) (y:Option X):(bif decide ((a+b)*1≤2 ^ 46)&&decide (0<1∧1≤2 ^ 20) then y else none)=y:=by
 rw [decide_eq_true (by omega)]; rfl
theorem growL {X:Type} {a:Nat} (h:a≤1000000) (y:Option X):(bif decide ((a+1)*16≤2 ^ 46)&&decide (0<16∧16≤2 ^ 20) then y else none)=y:=by
 rw [decide_eq_true (by omega)]; rfl
def wordT (k:Int):List UInt8:=if k=1 then [99] else if k=2 then [103] else if k=3 then [109,115] else if k=4 then [104] else if k=5 then [100] else []
theorem zsa {k:Int} (h:kindB k=true):k=1∨k=2∨k=3∨k=4∨k=5:=by
 unfold kindB at h
 simp only [Bool.and_eq_true,decide_eq_true_eq] at h
 omega
theorem zyw (n:Nat) (k:Int):F.zco n k=some (if kindB k then (wordT k,0,()) else ([],16,())):=by
 unfold F.zco
 by_cases h1:k<1
 · have:kindB k=false:=by unfold kindB; rw [decide_eq_false (by omega)]; rfl
   rw [zd h1,this]; rfl
 · rw [ze h1]
   by_cases h2:k>5
   · have:kindB k=false:=by unfold kindB; rw [decide_eq_false (by omega:¬ k≤5),Bool.and_false]
     rw [zd h2,this]; rfl
   · have hk:k=1∨k=2∨k=3∨k=4∨k=5:=by omega
     rw [ze h2]
     rcases hk with rfl | rfl | rfl | rfl | rfl<;>rfl
theorem zh2 (k:Int):(wordT k).length≤2:=by
 unfold wordT; repeat' split
 all_goals decide
def textL (d:DecL):List UInt8:=textD d.1 d.2.1.toNat d.2.2
def valsT (vs:List DecL):List UInt8:=(vs.map fun d=>58::textL d).flatten
def oneT (t:TagL):List UInt8:=if t.2=[] then t.1 else t.1++([58]++t.2)
def tagText (ts:List TagL):List UInt8:=Lib.join (ts.map oneT) [44]
def rateP (r:Int):List UInt8:=if r=1000000 then [] else [124,64]++(rateText r).1
def tagsP (ts:List TagL):List UInt8:=if ts=[] then [] else [124,35]++tagText ts
def timeP (t:Int):List UInt8:=if t=0 then [] else [124,84]++Lib.decDigits t.toNat
def lineD (m:MetD):List UInt8:=m.1++valsT m.2.2.1++([124]++wordT m.2.1)++rateP m.2.2.2.1++tagsP m.2.2.2.2.1++timeP m.2.2.2.2.2.1
theorem zme {vs:List DecL} (h:∀ d∈vs,DecLOK d∧decC d=0):(valsT vs).length≤40*vs.length:=by
 induction vs with
 | nil=>simp [valsT]
 | cons d vs ih =>
  have:=zbp (h d (by simp)).1 (h d (by simp)).2
  have h2:=ih (fun x hx=>h x (List.mem_cons_of_mem _ hx))
  have e:(valsT (d::vs)).length=(textL d).length+1+(valsT vs).length:=by simp [valsT]; omega
  have e2:(textL d).length≤39:=this
  simp only [List.length_cons]
  omega
theorem zir {t:TagL} (h:TagS t):(oneT t).length≤2001:=by
 unfold oneT
 have:=h.1; have:=h.2
 split<;>simp<;>omega
theorem zyx (sep:List UInt8) (b:Nat):∀ l:List (List UInt8),(∀ x∈l,x.length≤b)→(Lib.join l sep).length≤l.length*(b+sep.length):=by
 intro l h
 cases l with
 | nil=>simp [Lib.join]
 | cons x l =>
  rw [Lib.join_cons]
  have:∀ l:List (List UInt8),(∀ x∈l,x.length≤b)→(Lib.joinTail sep l).length≤l.length*(b+sep.length):=by
   intro l
   induction l with
   | nil=>intro _; simp [Lib.joinTail]
   | cons y l ih =>
    intro h
    have h1:=ih (fun x hx=>h x (List.mem_cons_of_mem _ hx))
    have h2:=h y (by simp)
    have:Lib.joinTail sep (y::l)=sep++y++Lib.joinTail sep l:=by simp [Lib.joinTail]
    rw [this,List.length_append,List.length_append,List.length_cons,Nat.add_mul]
    omega
  have h1:=this l (fun x hx=>h x (List.mem_cons_of_mem _ hx))
  have h2:=h x (by simp)
  rw [List.length_append,List.length_cons,Nat.add_mul]
  omega
theorem zem {ts:List TagL} (h:∀ t∈ts,TagS t) (hl:ts.length≤32):(tagText ts).length≤70000:=by
 unfold tagText
 have:=zyx [44] 2001 (ts.map oneT) (fun x hx=>by
  obtain ⟨t,ht,rfl⟩:=List.mem_map.1 hx
  exact zir (h t ht))
 rw [List.length_map] at this
 have h2:ts.length*(2001+[(44:UInt8)].length)≤32*2002:=Nat.mul_le_mul_right _ hl
 omega
theorem zmf (n:Nat) (hn:200000≤n) (X:Type) (k0:List (List UInt8)→Nat→Option X) (kr:List UInt8→Int→Int→Option X) (ts:List TagL) (hl:ts.length≤1000) (hok:∀ t∈ts,TagS t∧tagGood t=true):∀ (r:List TagL) (acc:List (List UInt8)) (i m:Nat),ts.drop i=r→acc.length≤i→i≤ts.length→r.length<m →
 F.za3.L3 n k0 kr m acc ts (ts.length:Int) (i:Int) acc.length=k0 (acc++r.map oneT) (acc++r.map oneT).length:=by
 intro r
 induction r with
 | nil =>
  intro acc i m h1 h2 hi hm
  obtain ⟨m,rfl⟩:∃ q,m=q+1:=⟨m - 1,by omega⟩
  rw [F.za3.L3]
  unfold F.za3.L3.step
  dsimp only
  rw [ze (by have:=zl h1; omega)]
  simp
 | cons t r ih =>
  intro acc i m h1 h2 hi hm
  obtain ⟨m,rfl⟩:∃ q,m=q+1:=⟨m - 1,by simp at hm; omega⟩
  obtain ⟨l1,g1,t1⟩:=zk h1
  simp only [List.length_cons] at hm
  obtain ⟨ht,hg⟩:=hok t (List.mem_of_getElem? g1)
  have a1:=ht.1
  have a2:=ht.2
  have hih:=ih (acc++[oneT t]) (i+1) m t1 (by simp; omega) (by omega) (by omega)
  have e:acc++[oneT t]++r.map oneT=acc++(t::r).map oneT:=by simp
  rw [e] at hih
  rw [F.za3.L3]
  unfold F.za3.L3.step
  dsimp only
  rw [zd (by omega),zm,g1,za,zil n hn ⟨by omega,by omega⟩,za,hg,cond_true]
  rw [zh (by omega),Nat.beq_refl,growL (by omega),growL (by omega)]
  simp only [beq_self_eq_true,Bool.not_true,cond_false,cond_true]
  by_cases h0:t.2=[]
  · rw [h0,beq_self_eq_true,Bool.not_true,cond_false]
    have e1:oneT t=t.1:=by unfold oneT; rw [if_pos h0]
    rw [e1] at hih
    exact hih
  · rw [beq_eq_false_iff_ne.2 h0,Bool.not_false,cond_true,growS (by omega),growS (by simp only [List.length_append,List.length_cons,List.length_nil]; omega)]
    have e1:oneT t=t.1++([58]++t.2):=by unfold oneT; rw [if_neg h0]
    rw [e1] at hih
    exact hih
theorem zpm (n:Nat) (hn:200000≤n) (ts:List TagL) (hl:ts.length≤32) (hok:∀ t∈ts,TagS t∧tagGood t=true):F.za3 n ts=some (tagText ts,0,0,()):=by
 unfold F.za3
 refine (zmf n hn _ _ _ ts (by omega) hok ts [] 0 n rfl (by simp) (by omega) (by omega)).trans ?_
 have e1:O.join n (ts.map oneT) [44]=some (tagText ts):=by
  unfold O.join
  have h2:=zem (fun t ht=>(hok t ht).1) hl
  unfold tagText at h2
  have:(Nat.ble (ts.map oneT).length big47&&Nat.ble (Lib.join (ts.map oneT) [44]).length big47)=true:=by
   simp only [Bool.and_eq_true,nble,big47,List.length_map]
   omega
  rw [this,cond_true]; rfl
 show (O.join n (ts.map oneT) [44]).bind _=_
 rw [e1]; rfl
theorem zis (n:Nat) {t:TagL} (h:TagS t):F.zbn n (t.1,t.2,())=some (oneT t):=by
 unfold F.zbn oneT
 have a1:=h.1
 have a2:=h.2
 dsimp only
 by_cases h0:t.2=[]
 · rw [h0,beq_self_eq_true,cond_true,if_pos rfl]
 · rw [beq_eq_false_iff_ne.2 h0,cond_false,growS (by omega),growS (by simp only [List.length_append,List.length_cons,List.length_nil]; omega),if_neg h0]
   simp
theorem zmg (n:Nat) (X:Type) (k0:List UInt8→Option X) (ts:List TagL) (hl:ts.length≤32) (hok:∀ t∈ts,TagS t):∀ (r:List TagL) (acc:List UInt8) (i m:Nat),ts.drop i=r→0<i→acc.length≤i*3000→i≤ts.length→r.length<m →
 F.zac.L3 n k0 m ts acc (i:Int)=k0 (acc++Lib.joinTail [44] (r.map oneT)):=by
 intro r
 induction r with
 | nil =>
  intro acc i m h1 h0 h2 hi hm
  obtain ⟨m,rfl⟩:∃ q,m=q+1:=⟨m - 1,by omega⟩
  rw [F.zac.L3]
  unfold F.zac.L3.step
  dsimp only
  rw [ze (by have:=zl h1; omega)]
  simp [Lib.joinTail]
 | cons t r ih =>
  intro acc i m h1 h0 h2 hi hm
  obtain ⟨m,rfl⟩:∃ q,m=q+1:=⟨m - 1,by simp at hm; omega⟩
  obtain ⟨l1,g1,t1⟩:=zk h1
  simp only [List.length_cons] at hm
  have ht:=hok t (List.mem_of_getElem? g1)
  have hlen:=zir ht
  rw [F.zac.L3]
  unfold F.zac.L3.step
  dsimp only
  rw [zd (by omega),zd (by omega),growS (by omega),zm,g1,za,zis n ht,za,growS (by simp only [List.length_append,List.length_cons,List.length_nil]; omega),zh (by omega)]
  rw [ih (acc++[44]++oneT t) (i+1) m t1 (by omega) (by simp only [List.length_append,List.length_cons,List.length_nil]; omega) (by omega) (by omega)]
  simp [Lib.joinTail]
theorem zpn (n:Nat) (hn:200000≤n) (ts:List TagL) (hl:ts.length≤32) (hok:∀ t∈ts,TagS t):F.zac n ts=some (tagText ts):=by
 unfold F.zac
 cases ts with
 | nil =>
  obtain ⟨m,rfl⟩:∃ q,n=q+1:=⟨n - 1,by omega⟩
  rfl
 | cons t r =>
  obtain ⟨m,hm⟩:∃ q,n=q+1:=⟨n - 1,by omega⟩
  have ht:=hok t (by simp)
  have hlen:=zir ht
  have h1:∀ k0:List UInt8→Option (List UInt8),F.zac.L3 n k0 (m+1) (t::r) [] (0:Int)=k0 (tagText (t::r)):=by
   intro k0
   rw [F.zac.L3]
   unfold F.zac.L3.step
   dsimp only
   rw [zd (by simp),ze (by omega),show (0:Int)=((0:Nat):Int) from rfl,zm,List.getElem?_cons_zero,za,zis n ht,za,growS (by simp only [List.length_nil]; omega),zh (by omega)]
   rw [zmg n _ k0 (t::r) hl hok r ([]++oneT t) 1 m rfl (by omega) (by simp only [List.length_append,List.length_nil]; omega) (by simp) (by simp at hl; omega)]
   unfold tagText
   rw [List.map_cons,Lib.join_cons,List.nil_append]
  rw [hm] at h1 ⊢
  exact h1 _
end Go.AM
set_option linter.unusedVariables false
set_option linter.unusedSimpArgs false
namespace Go.AM
theorem zmh {k r:Int} (h:rateB k r=true):(rateP r).length≤20∧(rateText r).2.1=0∧1≤r∧r≤1000000:=by
 have hr:1≤r∧r≤1000000:=by
  unfold rateB at h
  simp only [Bool.and_eq_true,decide_eq_true_eq] at h
  exact ⟨h.1,h.2.1⟩
 by_cases e:r=1000000
 · subst e; exact ⟨by decide,by decide,by omega,by omega⟩
 · have hf:=zcm (k:=r) ⟨hr.1,by omega⟩
   have h6:=(zc5 (k:=r.toNat) (by omega)).2.1
   have ht:=zc2 (pad6 r.toNat)
   unfold rateP
   rw [if_neg e,hf]
   refine ⟨?_,rfl,hr⟩
   simp only [List.length_append,List.length_cons,List.length_nil]
   omega
theorem zmi {t:Int} (h:timeB t=true):(timeP t).length≤24∧0≤t∧t≤1099511627776:=by
 have hr:0≤t∧t≤1099511627776:=by
  unfold timeB at h
  simpa only [Bool.and_eq_true,decide_eq_true_eq] using h
 refine ⟨?_,hr⟩
 have:=za3 (c:=t.toNat) (by rw [zz]; omega)
 unfold timeP
 split
 · simp
 · simp only [List.length_append,List.length_cons,List.length_nil]; omega
theorem zmj (n:Nat) (hn:200000≤n) (X:Type) (k0:List UInt8→List UInt8→Int→List DecL→Int→List TagL→Int→Option X) (b0:List UInt8) (b1:Int) (vs:List DecL) (b3:Int) (b4:List TagL) (b5:Int) (hl:vs.length≤100) (hok:∀ d∈vs,DecLOK d∧decC d=0):∀ (r:List DecL) (acc:List UInt8) (i m:Nat),vs.drop i=r→acc.length≤1000+i*40→i≤vs.length→r.length<m →
 F.zau.L3 n k0 m acc (i:Int) b0 b1 vs b3 b4 b5=k0 (acc++valsT r) b0 b1 vs b3 b4 b5:=by
 intro r
 induction r with
 | nil =>
  intro acc i m h1 h2 hi hm
  obtain ⟨m,rfl⟩:∃ q,m=q+1:=⟨m - 1,by omega⟩
  rw [F.zau.L3]
  unfold F.zau.L3.step
  dsimp only
  rw [ze (by have:=zl h1; omega)]
  simp [valsT]
 | cons d r ih =>
  intro acc i m h1 h2 hi hm
  obtain ⟨m,rfl⟩:∃ q,m=q+1:=⟨m - 1,by simp at hm; omega⟩
  obtain ⟨l1,g1,t1⟩:=zk h1
  simp only [List.length_cons] at hm
  obtain ⟨hd,h0⟩:=hok d (List.mem_of_getElem? g1)
  have hlen:(textL d).length≤39:=zbp hd h0
  have hT:F.zl n (d.1,d.2.1,d.2.2,())=some (textL d):=zdq n hn hd h0
  rw [F.zau.L3]
  unfold F.zau.L3.step
  dsimp only
  rw [zd (by omega),growS (by omega),zm,g1,za,hT,za,growS (by simp only [List.length_append,List.length_cons,List.length_nil]; omega),zh (by omega)]
  rw [ih (acc++[58]++textL d) (i+1) m t1 (by simp only [List.length_append,List.length_cons,List.length_nil]; omega) (by omega) (by omega)]
  simp [valsT]
structure RightM (m:MetD):Prop where
 ok:MetOK m
 chk:chkM m=0
theorem zct {m:MetD} (h:RightM m):(∀ d∈m.2.2.1,DecLOK d∧decC d=0)∧1≤m.2.2.1.length∧m.2.2.1.length≤64:=by
 have:=(za7 h.chk).2.2.1
 unfold valsB at this
 simp only [Bool.and_eq_true,decide_eq_true_eq] at this
 refine ⟨fun d hd=>⟨h.ok.2.1.2 d hd,?_⟩,this.1,this.2.1⟩
 simpa using List.all_eq_true.1 this.2.2 d hd
theorem zen {m:MetD} (h:RightM m):(∀ t∈m.2.2.2.2.1,TagS t∧tagGood t=true)∧m.2.2.2.2.1.length≤32:=by
 have:=(za7 h.chk).2.2.2.2.1
 unfold tagsB at this
 simp only [Bool.and_eq_true,decide_eq_true_eq] at this
 exact ⟨fun t ht=>⟨zcs (List.all_eq_true.1 this.2 t ht),List.all_eq_true.1 this.2 t ht⟩,this.1⟩
theorem zfs {s:List UInt8} (h:nameOK s=true):1≤s.length∧s.length≤200:=by
 rw [zfl] at h
 simp only [Bool.and_eq_true,decide_eq_true_eq] at h
 exact h.2
theorem zvr (n:Nat) (hn:200000≤n) (m:MetD) (h:RightM m):F.zau n m=some (lineD m):=by
 obtain ⟨hv,hv1,hv2⟩:=zct h
 obtain ⟨ht,ht2⟩:=zen h
 obtain ⟨c1,c2,c3,c4,c5,c6⟩:=za7 h.chk
 have hnm:=zfs c1
 have hvl:=zme hv
 have hk:=zsa c2
 obtain ⟨r1,r2,r3,r4⟩:=zmh c4
 obtain ⟨t1,t2,t3⟩:=zmi c6
 have htl:=zem (fun t ht'=>(ht t ht').1) ht2
 obtain ⟨nm,k,vs,r,ts,t,_⟩:=m
 simp only at hv hv1 hv2 ht ht2 hnm hvl hk r1 r2 r3 r4 t1 t2 t3 htl
 unfold F.zau
 refine (zmj n hn _ _ nm k vs r ts t (by omega) hv vs nm 0 n rfl (by omega) (by omega) (by omega)).trans ?_
 have hw:idx [[99],[103],[109,115],[104],[100]] (IntKind.wrap .i64 (k - 1))=some (wordT k):=by
  rcases hk with rfl | rfl | rfl | rfl | rfl<;>rfl
 have hws:=zh2 k
 have hd:F.zbk n t=some (Lib.decDigits t.toNat):=by
  unfold F.zbk
  have:F.zam n (IntKind.wrap .u64 t)=some (Lib.decDigits t.toNat):=by
   have e:IntKind.wrap .u64 t=((t.toNat:Nat):Int):=by
    rw [show IntKind.wrap .u64 t=t from IntWalk.u64_in t (by omega)]; omega
   rw [e]
   exact zef n (by omega) t.toNat (by omega)
  rw [this]; rfl
 have hdl:=za3 (c:=t.toNat) (by rw [zz]; omega)
 have hr:F.zg n r=some (rateText r).1:=zfn n (by omega) r ⟨r3,r4⟩
 have htt:F.zac n ts=some (tagText ts):=zpn n hn ts ht2 (fun t ht'=>(ht t ht').1)
 have hrl:(rateText r).1.length≤20:=by
  by_cases e:r=1000000
  · subst e; decide
  · unfold rateP at r1; rw [if_neg e] at r1; simp only [List.length_append,List.length_cons,List.length_nil] at r1; omega
 rw [show F.zbz n=some [[99],[103],[109,115],[104],[100]] from rfl]
 simp only [za,hw,hr,htt,hd]
 rw [growS (by simp only [List.length_append,List.length_cons,List.length_nil]; omega),growS (by simp only [List.length_append,List.length_cons,List.length_nil]; omega)]
 unfold lineD rateP tagsP timeP
 have lenT:decide ((ts.length:Int)>0) = !decide (ts=[]):=by cases ts<;>simp<;>omega
 have f1:(r==(1000000:Int))=decide (r=1000000):=by by_cases e:r=1000000<;>simp [e]
 have f3:(t==(0:Int))=decide (t=0):=by by_cases e:t=0<;>simp [e]
 rw [lenT,f1,f3]
 by_cases e1:r=1000000<;>by_cases e2:ts=[]<;>by_cases e3:t=0
 all_goals
  simp only [e1,e2,e3,Bool.not_true,Bool.not_false,cond_true,cond_false,decide_true,decide_false,if_true,if_false]
  repeat rw [growS (by simp only [List.length_append,List.length_cons,List.length_nil]; omega)]
  simp
theorem zsb (n:Nat) (hn:200000≤n) (X:Type) (k0:List UInt8→Int→List DecL→Int→List TagL→Int→(Nat×List UInt8)→(Nat×Nat)→Int→Option X) (b0:List UInt8) (b1:Int) (b2:List DecL) (b3:Int) (b4:List TagL) (b5:Int) (vs:List DecL) (hl:vs.length≤100) (hok:∀ d∈vs,DecLOK d∧decC d=0):∀ (r:List DecL) (acc:List UInt8) (v i m:Nat),vs.drop i=r→acc.length≤1000+i*40→i≤vs.length→r.length<m →
 ∃ v',F.zi.L9 n k0 m vs (vs.length:Int) (i:Int) b0 b1 b2 b3 b4 b5 (v,acc) (v,acc.length) 0=k0 b0 b1 b2 b3 b4 b5 (v',acc++valsT r) (v',(acc++valsT r).length) 0:=by
 intro r
 induction r with
 | nil =>
  intro acc v i m h1 h2 hi hm
  obtain ⟨m,rfl⟩:∃ q,m=q+1:=⟨m - 1,by omega⟩
  refine ⟨v,?_⟩
  rw [F.zi.L9]
  unfold F.zi.L9.step
  dsimp only
  rw [ze (by have:=zl h1; omega)]
  simp [valsT]
 | cons d r ih =>
  intro acc v i m h1 h2 hi hm
  obtain ⟨m,rfl⟩:∃ q,m=q+1:=⟨m - 1,by simp at hm; omega⟩
  obtain ⟨l1,g1,t1⟩:=zk h1
  simp only [List.length_cons] at hm
  obtain ⟨hd,h0⟩:=hok d (List.mem_of_getElem? g1)
  have hlen:(textL d).length≤39:=zbp hd h0
  have hT:F.zby n (d.1,d.2.1,d.2.2,())=some (textL d,0,()):=zee n hn hd h0
  obtain ⟨v',hv⟩:=ih (acc++([58]++textL d)) (v+1) (i+1) m t1 (by simp only [List.length_append,List.length_cons,List.length_nil]; omega) (by omega) (by omega)
  refine ⟨v',?_⟩
  rw [F.zi.L9]
  unfold F.zi.L9.step
  dsimp only
  rw [zd (by omega),zm,g1,za,hT,za,zh (by omega)]
  dsimp only
  rw [beq_self_eq_true,cond_true,growS (by omega),Nat.beq_refl,cond_true,growB (by simp only [List.length_append,List.length_cons,List.length_nil]; omega)]
  rw [hv]
  simp [valsT]
theorem zsc (n:Nat) (X:Type) (kr:List UInt8→Int→Option X) (b0:List UInt8) (b1:Int) (b2:List DecL) (b3:Int) (b4:List TagL) (b5:Int) (B:List UInt8) (v l:Nat) (hB:B≠[]):F.zi.C25 n kr b0 b1 b2 b3 b4 b5 (v,B) (v,l) 0=kr B 0:=by
 unfold F.zi.C25
 dsimp only
 rw [beq_self_eq_true,Bool.not_true,cond_false,Nat.beq_refl,cond_true]
 cases B with
 | nil=>exact absurd rfl hB
 | cons x B=>rfl
theorem zsd (n:Nat) (X:Type) (kr:List UInt8→Int→Option X) (b0:List UInt8) (b1:Int) (b2:List DecL) (b3:Int) (b4:List TagL) (b5:Int) (h5:timeB b5=true) (B:List UInt8) (v:Nat) (hB:B≠[]) (hl:B.length≤200000):F.zi.C22 n kr b0 b1 b2 b3 b4 b5 (v,B) (v,B.length) 0=kr (B++timeP b5) 0:=by
 obtain ⟨t1,t2,t3⟩:=zmi h5
 unfold F.zi.C22 timeP
 by_cases e:b5=0
 · rw [e,beq_self_eq_true,Bool.not_true,cond_false,if_pos rfl,List.append_nil]
   exact zsc n X _ b0 b1 b2 b3 b4 0 B v _ hB
 · have hd:F.zci n b5=some (Lib.decDigits b5.toNat,0,()):=by
    rw [zl7 n b5 (by omega)]; unfold numText; rw [if_neg (by omega)]
   have hdl:=za3 (c:=b5.toNat) (by rw [zz]; omega)
   rw [beq_eq_false_iff_ne.2 e,Bool.not_false,cond_true,hd,za,if_neg e]
   dsimp only
   rw [beq_self_eq_true,cond_true,growS (by omega),Nat.beq_refl,cond_true,growB (by simp only [List.length_append,List.length_cons,List.length_nil]; omega)]
   exact zsc n X _ b0 b1 b2 b3 b4 b5 _ _ _ (by simp)
theorem zse (n:Nat) (hn:200000≤n) (X:Type) (kr:List UInt8→Int→Option X) (b0:List UInt8) (b1:Int) (b2:List DecL) (b3:Int) (b4:List TagL) (b5:Int) (h5:timeB b5=true) (hts:b4.length≤32) (ht:∀ t∈b4,TagS t∧tagGood t=true) (B:List UInt8) (v:Nat) (hB:B≠[]) (hl:B.length≤100000):F.zi.C19 n kr b0 b1 b2 b3 b4 b5 (v,B) (v,B.length) 0=kr (B++tagsP b4++timeP b5) 0:=by
 have htl:=zem (fun t ht'=>(ht t ht').1) hts
 unfold F.zi.C19 tagsP
 by_cases e:b4=[]
 · rw [e,ze (by simp),if_pos rfl,List.append_nil]
   exact zsd n X _ b0 b1 b2 b3 [] b5 h5 B v hB (by omega)
 · have hlen:0<b4.length:=List.length_pos_iff.2 e
   rw [zd (by omega),zpm n hn b4 hts ht,za,if_neg e]
   dsimp only
   rw [beq_self_eq_true,cond_true,growS (by omega),Nat.beq_refl,cond_true,growB (by simp only [List.length_append,List.length_cons,List.length_nil]; omega)]
   exact zsd n X _ b0 b1 b2 b3 b4 b5 h5 _ _ (by simp) (by simp only [List.length_append,List.length_cons,List.length_nil]; omega)
theorem zyy (n:Nat) (hn:200000≤n) (X:Type) (kr:List UInt8→Int→Option X) (b0:List UInt8) (b1:Int) (b2:List DecL) (b3:Int) (b4:List TagL) (b5:Int) (k:Int) (h3:rateB k b3=true) (h5:timeB b5=true) (hts:b4.length≤32) (ht:∀ t∈b4,TagS t∧tagGood t=true) (B:List UInt8) (v:Nat) (hB:B≠[]) (hl:B.length≤50000):F.zi.C16 n kr b0 b1 b2 b3 b4 b5 (v,B) (v,B.length) 0=kr (B++rateP b3++tagsP b4++timeP b5) 0:=by
 obtain ⟨r1,r2,r3,r4⟩:=zmh h3
 unfold F.zi.C16
 by_cases e:b3=1000000
 · have:rateP b3=[]:=by unfold rateP; rw [if_pos e]
   rw [this,List.append_nil,e,beq_self_eq_true,Bool.not_true,cond_false]
   exact zse n hn X _ b0 b1 b2 1000000 b4 b5 h5 hts ht B v hB (by omega)
 · have hP:rateP b3=[124,64]++(rateText b3).1:=by unfold rateP; rw [if_neg e]
   have hrl:(rateText b3).1.length≤20:=by rw [hP] at r1; simp only [List.length_append,List.length_cons,List.length_nil] at r1; omega
   rw [hP,beq_eq_false_iff_ne.2 e,Bool.not_false,cond_true,zfm,za,beq_self_eq_true,cond_true,growS (by omega)]
   dsimp only
   rw [Nat.beq_refl,cond_true,growB (by simp only [List.length_append,List.length_cons,List.length_nil]; omega),r2]
   exact zse n hn X _ b0 b1 b2 b3 b4 b5 h5 hts ht _ _ (by simp) (by simp only [List.length_append,List.length_cons,List.length_nil]; omega)
def lineM (m:MetD):List UInt8×Int×Unit:=if (normM m).2.1=0 then (lineD (normM m).1,0,()) else ([],(normM m).2.1,())
theorem zdr {m:MetD} (hm:MetOK m):(normM m=(formM m,0,())∧RightM (formM m))∨(∃ e,e≠0∧normM m=(zeroM,e,())):=by
 unfold normM
 by_cases h:chkM (valsM m)=0
 · refine Or.inl ⟨if_pos h,?_,?_⟩
   · have hv:=zmb hm
     refine ⟨hm.1,hv.2.1,?_,?_⟩
     · have h1:=zdh m.2.2.2.2.1
       have h2:=hm.2.2.1
       show (normT m.2.2.2.2.1).length≤10000
       omega
     · intro t ht
       exact hm.2.2.2 t ((zck _ _).1 ht)
   · obtain ⟨c1,c2,c3,c4,c5,c6⟩:=za7 h
     have c5':tagsB (formM m).2.2.2.2.1=true:=by
      unfold tagsB at c5 ⊢
      simp only [Bool.and_eq_true,decide_eq_true_eq] at c5 ⊢
      have h1:=zdh m.2.2.2.2.1
      have h2:m.2.2.2.2.1.length≤32:=c5.1
      refine ⟨?_,List.all_eq_true.2 (fun t ht=>List.all_eq_true.1 c5.2 t ((zck _ _).1 ht))⟩
      show (normT m.2.2.2.2.1).length≤32
      omega
     unfold chkM
     have d1:nameOK (formM m).1=true:=c1
     have d2:kindB (formM m).2.1=true:=c2
     have d3:valsB (formM m).2.2.1=true:=c3
     have d4:rateB (formM m).2.1 (formM m).2.2.2.1=true:=c4
     have d6:timeB (formM m).2.2.2.2.2.1=true:=c6
     rw [d1,d2,d3,d4,c5',d6]
     rfl
 · exact Or.inr ⟨_,h,if_neg h⟩
theorem zyz (n : Nat) (hn : 200000≤n) (m:MetD) (hm:MetOK m):F.zi n m=some (lineM m):=by
 unfold F.zi lineM
 have hN:F.zn n (m.1,m.2.1,m.2.2.1,m.2.2.2.1,m.2.2.2.2.1,m.2.2.2.2.2.1,())=some (normM m):=zfr n hn m hm
 rw [hN,za]
 rcases zdr hm with ⟨h1,hR⟩ | ⟨e,he,h1⟩
 · rw [h1]
   generalize formM m=f at hR
   obtain ⟨hv,hv1,hv2⟩:=zct hR
   obtain ⟨ht,ht2⟩:=zen hR
   obtain ⟨c1,c2,c3,c4,c5,c6⟩:=za7 hR.chk
   have hnm:=zfs c1
   have hvl:=zme hv
   obtain ⟨nm,k,vs,r,ts,t,_⟩:=f
   dsimp only at hv hv1 hv2 ht ht2 c1 c2 c3 c4 c5 c6 hnm hvl ⊢
   rw [beq_self_eq_true,Bool.not_true,cond_false,if_pos rfl,growS (by omega),growB (by simp only [List.length_append,List.length_nil]; omega)]
   obtain ⟨v', hloop⟩ := zsb n hn _ (fun e4_b0_0 e4_b0_1 e4_b0_2 e4_b0_3 e4_b0_4 e4_b0_5 e4_b1_0 e4_b2_1 e4_b3_0 =>
           (F.zco n e4_b0_1).bind fun y5 =>
            bif e4_b3_0 == (0:Int) then
             bif decide (1+y5.1.length≤strMax) then
              bif Nat.beq e4_b2_1.1 e4_b1_0.1 then
               bif decide ((e4_b1_0.2.length+((([124])++y5.1).length))*1≤2 ^ 46)&&decide (0<1∧1≤2 ^ 20) then
                F.zi.C16 n
                 (fun e30_2 e30_3 =>
                  some ((e30_2,e30_3,()))) e4_b0_0 e4_b0_1 e4_b0_2 e4_b0_3 e4_b0_4 e4_b0_5 (e4_b2_1.1+1,e4_b1_0.2++(([124])++y5.1)) (e4_b2_1.1+1,(e4_b1_0.2++(([124])++y5.1)).length) y5.2.1
               else
                none
              else
               none
             else
              none
            else
            bif decide (1+y5.1.length≤strMax) then
             bif Nat.beq e4_b2_1.1 e4_b1_0.1 then
              bif decide ((e4_b1_0.2.length+((([124])++y5.1).length))*1≤2 ^ 46)&&decide (0<1∧1≤2 ^ 20) then
               F.zi.C16 n
                (fun e31_2 e31_3 =>
                 some ((e31_2,e31_3,()))) e4_b0_0 e4_b0_1 e4_b0_2 e4_b0_3 e4_b0_4 e4_b0_5 (e4_b2_1.1+1,e4_b1_0.2++(([124])++y5.1)) (e4_b2_1.1+1,(e4_b1_0.2++(([124])++y5.1)).length) e4_b3_0
              else
               none
             else
              none
            else
             none) nm k vs r ts t vs (by omega) hv vs nm 2 0 n rfl (by omega) (by omega) (by omega)
   refine hloop.trans ?_
   dsimp only
   have hws:=zh2 k
   rw [zyw,c2,if_pos rfl,za]
   dsimp only
   rw [beq_self_eq_true,cond_true,growS (by omega),Nat.beq_refl,cond_true,growB (by simp only [List.length_append,List.length_cons,List.length_nil]; omega)]
   exact zyy n hn _ _ nm k vs r ts t k c4 c6 ht2 ht _ _ (by simp) (by simp only [List.length_append,List.length_cons,List.length_nil]; omega)
 · rw [h1]
   dsimp only
   rw [if_neg he,beq_eq_false_iff_ne.2 he,Bool.not_false,cond_true]
end Go.AM
set_option linter.unusedVariables false
set_option linter.unusedSimpArgs false
namespace Go.AM
abbrev Res (α:Type):=Except (Int×Int) α
def kindR (s:List UInt8):Int:=if s=[99] then 1 else if s=[103] then 2 else if s=[109,115] then 3 else if s=[104] then 4 else if s=[100] then 5 else 0
theorem zy0 (n:Nat) (hn:100≤n) (s:List UInt8):F.zbl n s=some (if kindR s=0 then (0,16,()) else (kindR s,0,())):=by
 obtain ⟨m,hm⟩:∃ q,n=q+7:=⟨n - 7,by omega⟩
 unfold F.zbl
 rw [show F.zcq n=some ([],[99],[103],[109,115],[104],[100],()) from rfl,za]
 have L:∀ (k0:Unit→Option (Int×Int×Unit)) (kr:Int→Int→Option (Int×Int×Unit)),F.zbl.L2 n k0 kr (m+7) s ([],[99],[103],[109,115],[104],[100],()) (0:Int)=if s=[99] then kr 1 0 else if s=[103] then kr 2 0 else if s=[109,115] then kr 3 0 else if s=[104] then kr 4 0 else if s=[100] then kr 5 0 else k0 ():=by
  intro k0 kr
  have e1:([99]==s)=decide (s=[99]):=by by_cases h:s=[99]<;>simp [h]; exact fun h'=>h h'.symm
  have e2:([103]==s)=decide (s=[103]):=by by_cases h:s=[103]<;>simp [h]; exact fun h'=>h h'.symm
  have e3:([109,115]==s)=decide (s=[109,115]):=by by_cases h:s=[109,115]<;>simp [h]; exact fun h'=>h h'.symm
  have e4:([104]==s)=decide (s=[104]):=by by_cases h:s=[104]<;>simp [h]; exact fun h'=>h h'.symm
  have e5:([100]==s)=decide (s=[100]):=by by_cases h:s=[100]<;>simp [h]; exact fun h'=>h h'.symm
  show (bif [99]==s then kr 1 0 else bif [103]==s then kr 2 0 else bif [109,115]==s then kr 3 0 else bif [104]==s then kr 4 0 else bif [100]==s then kr 5 0 else k0 ())=_
  rw [e1,e2,e3,e4,e5]
  simp only [bdec]
 rw [hm] at L ⊢
 refine (L _ _).trans ?_
 unfold kindR
 repeat' split
 all_goals first | rfl | (simp_all)
def readVals:List (List UInt8)→List DecL→Int→Except Int (List DecL)
 | [],acc,_ => .ok acc
 | v::r,acc,at_=>if (parseR v).2.1.1=0∧acc.length≠64 then readVals r (acc++[((parseR v).1.1,(parseR v).1.2.1,(parseR v).1.2.2.1)]) (at_+v.length+1) else .error at_
def restN (c:UInt8) (s:List UInt8):List UInt8:=if c∈s then s.drop ((seg c s).length+1) else []
def firstR (s:List UInt8):Res (List UInt8×List DecL):=
 if nameOK (seg 58 s)=false then .error (15,0)
 else if 58∉s then .error (11,(s.length:Int))
 else match readVals (splitL 58 (restN 58 s)) [] ((seg 58 s).length+1) with
  | .ok vs => .ok (seg 58 s,vs)
  | .error at_ => .error (17,at_)
def tagsR:List (List UInt8)→List TagL→Int→Except Int (List TagL)
 | [],acc,_ => .ok acc
 | p::r,acc,at_=>if tagGood (seg 58 p,restN 58 p)=true∧¬ (58∈p∧restN 58 p=[]) then tagsR r (acc++[(seg 58 p,restN 58 p)]) (at_+p.length+1) else .error at_
def moreR (m:MetD) (last:Int):List UInt8→Except Int (MetD×Int)
 | [] => .error 11
 | x :: s =>
  if x=64 then (if 0<last then .error 11 else if (rateR s).2.1.1≠0∨(m.2.1=2∧(rateR s).1≠1000000) then .error 18 else .ok ((m.1,m.2.1,m.2.2.1,(rateR s).1,m.2.2.2.2.1,m.2.2.2.2.2.1,()),1))
  else if x=35 then (if 1<last then .error 11 else match tagsR (splitL 44 s) [] 0 with
   | .error _ => .error 19
   | .ok l=>if 32<l.length then .error 19 else .ok ((m.1,m.2.1,m.2.2.1,m.2.2.2.1,normT l,m.2.2.2.2.2.1,()),2))
  else if x=84 then (if 2<last then .error 11 else if (parseNum s 1 1099511627776).2.1.1≠0 then .error 20 else .ok ((m.1,m.2.1,m.2.2.1,m.2.2.2.1,m.2.2.2.2.1,(parseNum s 1 1099511627776).1,()),3))
  else .error 11
def restR:List (List UInt8)→Int→MetD→Int→Res MetD
 | [],_,m,_ => .ok m
 | p::r,at_,m,last=>match moreR m last p with
  | .error e => .error (e,at_)
  | .ok (m',last')=>restR r (at_+p.length+1) m' last'
def secondR (s p:List UInt8) (nm:List UInt8) (vs:List DecL):List (List UInt8)→Res MetD
 | [] => .error (11,(s.length:Int))
 | q::r=>if kindR q=0 then .error (16,(p.length:Int)+1) else restR r ((p.length:Int)+1+(q.length+1)) (nm,kindR q,vs,1000000,[],0,()) 0
def linesR (s:List UInt8):List (List UInt8)→Res MetD
 | [] => .error (11,0)
 | p::r=>match firstR p with
  | .error e => .error e
  | .ok x=>secondR s p x.1 x.2 r
abbrev ParseD:=MetD×(Int×Int×Unit)×Unit
def outP:Res MetD→ParseD
 | .ok m=>(m,(0,0,()),())
 | .error e=>(zeroM,(e.1,e.2,()),())
def parseD (s:List UInt8):ParseD:=if 8192<s.length then (zeroM,(12,0,()),()) else outP (linesR s (splitL 124 s))
theorem zeo (c:UInt8) (s:List UInt8):(restN c s).length≤s.length:=by
 unfold restN; split<;>simp
theorem zep (c:UInt8) (s:List UInt8):splitL c s=if c∈s then seg c s::splitL c (restN c s) else [s]:=by
 induction s with
 | nil=>rfl
 | cons x s ih =>
  by_cases hx:x=c
  · subst hx
    have e1:seg x (x::s)=[]:=by rw [zaj,if_pos rfl]
    have e2:restN x (x::s)=s:=by unfold restN; rw [if_pos (by simp),e1]; rfl
    rw [if_pos (by simp),e1,e2,splitL,if_pos rfl]
  · have hmem:(c∈x::s)↔c∈s:=by simp [show ¬ c=x from fun h=>hx h.symm]
    rw [splitL,if_neg hx,ih]
    by_cases hc:c∈s
    · rw [if_pos hc,if_pos (hmem.2 hc)]
      have e1:seg c (x::s)=x::seg c s:=by rw [zaj,if_neg hx]
      have e2:restN c (x::s)=restN c s:=by unfold restN; rw [if_pos hc,if_pos (hmem.2 hc),e1]; rfl
      rw [e1,e2]
    · rw [if_neg hc,if_neg (fun h=>hc (hmem.1 h))]
def sumL (l:List (List UInt8)):Nat:=(l.map fun p=>p.length+1).sum
theorem zao (c:UInt8) (s:List UInt8):sumL (splitL c s)=s.length+1:=by
 induction s with
 | nil=>rfl
 | cons x s ih =>
  rw [splitL]
  split
  · simp only [sumL,List.map_cons,List.sum_cons,List.length_nil,List.length_cons] at ih ⊢
    omega
  · have hne:=zag c s
    revert ih hne
    cases splitL c s with
    | nil=>intro _ h; exact absurd rfl h
    | cons p l =>
     intro ih _
     simp only [sumL,List.map_cons,List.sum_cons,List.length_cons] at ih ⊢
     omega
theorem zau (l:List (List UInt8)):l.length≤sumL l:=by
 induction l with
 | nil=>simp [sumL]
 | cons p l ih=>simp only [sumL,List.map_cons,List.sum_cons,List.length_cons] at ih ⊢; omega
theorem zca {l:List (List UInt8)} {p:List UInt8} (h:p∈l):p.length+1≤sumL l:=by
 induction l with
 | nil=>cases h
 | cons q l ih =>
  simp only [sumL,List.map_cons,List.sum_cons] at ih ⊢
  rcases List.mem_cons.1 h with rfl | h
  · omega
  · have:=ih h; omega
theorem zg8 (n:Nat) (c:UInt8) {s:List UInt8} (hs:s.length≤1000000):O.split1 n s [c]=some (splitL c s):=by
 unfold O.split1
 dsimp only
 rw [decide_eq_true (by omega)]; rfl
theorem zh3 (s:List UInt8):((parseR s).2.1.1==0&&(parseR s).2.1.2.1==0)=decide ((parseR s).2.1.1=0):=by
 by_cases h:(parseR s).2.1.1=0
 · rw [decide_eq_true h,h,zci h]; rfl
 · rw [decide_eq_false h,beq_eq_false_iff_ne.2 h]; rfl
theorem zpo (n:Nat) (hn:200000≤n) (X:Type) (k0 kr:List TagL→Int→Int→Nat→Option X) (ps:List (List UInt8)) (hs:sumL ps≤10000) (b0 b1:Int):∀ (r:List (List UInt8)) (acc:List TagL) (a:Int) (i m:Nat),ps.drop i=r→acc.length≤i→i≤ps.length→r.length<m→0≤a→a+sumL r≤10000 →
 F.zax.L4 n k0 kr m acc a ps (ps.length:Int) (i:Int) b0 b1 acc.length=match tagsR r acc a with
  | .ok l=>k0 l b0 b1 l.length
  | .error e=>kr [] 19 e 0:=by
 intro r
 have hpl:=zau ps
 induction r with
 | nil =>
  intro acc a i m h1 h2 hi hm ha has
  obtain ⟨m,rfl⟩:∃ q,m=q+1:=⟨m - 1,by omega⟩
  rw [F.zax.L4]
  unfold F.zax.L4.step
  dsimp only
  rw [ze (by have:=zl h1; omega)]
  rfl
 | cons p r ih =>
  intro acc a i m h1 h2 hi hm ha has
  obtain ⟨m,rfl⟩:∃ q,m=q+1:=⟨m - 1,by simp at hm; omega⟩
  obtain ⟨l1,g1,t1⟩:=zk h1
  simp only [List.length_cons] at hm
  simp only [sumL,List.map_cons,List.sum_cons] at has
  have hp:=zca (List.mem_of_getElem? g1)
  have hsl:=z6 58 p
  have hrl:=zeo 58 p
  have hih:=ih (acc++[(seg 58 p,restN 58 p)]) (a+p.length+1) (i+1) m t1 (by simp; omega) (by omega) (by omega) (by omega) (by simp only [sumL]; omega)
  have hcut:F.zap n p [58]=some (seg 58 p,restN 58 p,decide (58∈p),()):=zbz n 58 (by omega)
  have hw:IntKind.wrap .i64 (a+IntKind.wrap .i64 ((p.length:Int)+1))=a+p.length+1:=by
   rw [zh (by omega),zi (by omega)]; omega
  have hg:(decide ((acc.length+1)*32≤2 ^ 46)&&decide (0<32∧32≤2 ^ 20))=true:=by rw [decide_eq_true (by omega)]; rfl
  rw [F.zax.L4]
  unfold F.zax.L4.step
  dsimp only
  rw [zd (by omega),zm,g1,za,hcut,za]
  dsimp only
  have hc:=zil n hn (t:=(seg 58 p,restN 58 p)) ⟨by show (seg 58 p).length≤10000; omega,by show (restN 58 p).length≤10000; omega⟩
  dsimp only at hc
  rw [hc,za,hw,zh (by omega),hg,Nat.beq_refl,cond_true,cond_true,tagsR]
  cases tagGood (seg 58 p,restN 58 p)
  · rw [if_neg (by simp)]; rfl
  · rw [cond_true,beq_self_eq_true,Bool.not_true,cond_false,bdec]
    by_cases hin:(58:UInt8)∈p
    · rw [if_pos hin]
      by_cases h0:restN 58 p=[]
      · rw [h0,beq_self_eq_true,cond_true,if_neg (by simp [hin])]
      · rw [beq_eq_false_iff_ne.2 h0,cond_false,if_pos ⟨rfl,by simp [h0]⟩]
        exact hih
    · rw [if_neg hin,if_pos ⟨rfl,by simp [hin]⟩]
      exact hih
theorem znk (n:Nat) (hn:200000≤n) (s:List UInt8) (hs:s.length≤9000):F.zax n s=some (match tagsR (splitL 44 s) [] 0 with | .ok l=>(l,(0,0,()),()) | .error e=>([],(19,e,()),())):=by
 unfold F.zax
 have h1:=zao 44 s
 have h2:=zau (splitL 44 s)
 rw [zg8 n 44 (by omega),za]
 refine (zpo n hn _ _ _ (splitL 44 s) (by omega) 0 0 (splitL 44 s) [] 0 0 n rfl (by simp) (by omega) (by omega) (by omega) (by omega)).trans ?_
 cases tagsR (splitL 44 s) [] 0<;>rfl
end Go.AM
set_option linter.unusedVariables false
set_option linter.unusedSimpArgs false
namespace Go.AM
def atL:List (List UInt8)→Int→List (Int×List UInt8)
 | [],_=>[]
 | p::r,a=>(a,p)::atL r (a+p.length+1)
def curL (a:Int) (cur:List UInt8):List (List UInt8)→List (Int×List UInt8)
 | []=>[]
 | p::q=>(a,cur++p)::atL q (a+cur.length+p.length+1)
theorem zvs (n:Nat) (X:Type) (k0:(Nat×Nat)→(Nat×List (Int×List UInt8))→(Nat×List (Int×List UInt8))→Option X) (c:UInt8) (s:List UInt8) (at0:Int) (h0:0≤at0∧at0≤100000) (hs:s.length≤100000) (b0:Nat×List (Int×List UInt8)) :
 ∀ (r:List UInt8) (done:List (Int×List UInt8)) (a:Int) (cur:List UInt8) (v i m:Nat),s.drop i=r→i≤s.length→at0+i=a+cur.length→r.length<m→done.length≤i→cur.length≤i→∃ v',F.zat.L3 n k0 m s (c.toNat:Int) at0 (v,(done++[(a,cur)]).length) (i:Int) b0 (v,done++[(a,cur)])=k0 (v',(done++curL a cur (splitL c r)).length) b0 (v',done++curL a cur (splitL c r)):=by
 intro r
 induction r with
 | nil =>
  intro done a cur v i m h1 hi ha hm hd hc
  obtain ⟨m,rfl⟩:∃ q,m=q+1:=⟨m - 1,by omega⟩
  refine ⟨v,?_⟩
  rw [F.zat.L3]
  unfold F.zat.L3.step
  dsimp only
  rw [ze (by have:=zl h1; omega)]
  have:curL a cur (splitL c [])=[(a,cur)]:=by simp [splitL,curL,atL]
  rw [this]
 | cons x r ih =>
  intro done a cur v i m h1 hi ha hm hd hc
  obtain ⟨m,rfl⟩:∃ q,m=q+1:=⟨m - 1,by simp at hm; omega⟩
  obtain ⟨l1,g1,t1⟩:=zk h1
  simp only [List.length_cons] at hm
  rw [F.zat.L3]
  unfold F.zat.L3.step
  dsimp only
  rw [zd (by omega),zm,g1,za,zaq,zh (by omega)]
  by_cases hx:x=c
  · rw [decide_eq_true hx,cond_true,Nat.beq_refl,cond_true]
    have hg:(decide (((done++[(a,cur)]).length+1)*24≤2 ^ 46)&&decide (0<24∧24≤2 ^ 20))=true:=by
     rw [decide_eq_true (by simp only [List.length_append,List.length_cons,List.length_nil]; omega)]; rfl
    have hw:IntKind.wrap .i64 (IntKind.wrap .i64 (at0+(i:Int))+1)=a+cur.length+1:=by
     rw [zi (x:=at0+(i:Int)) (by omega),zi (by omega)]; omega
    rw [hg,cond_true,hw]
    obtain ⟨v',hv⟩:=ih (done++[(a,cur)]) (a+cur.length+1) [] (v+1) (i+1) m t1 (by omega) (by simp; omega) (by omega) (by simp; omega) (by simp)
    refine ⟨v',hv.trans ?_⟩
    have e:done++[(a,cur)]++curL (a+cur.length+1) [] (splitL c r)=done++curL a cur (splitL c (x::r)):=by
     rw [splitL,if_pos hx,List.append_assoc]
     congr 1
     cases hq:splitL c r with
     | nil=>exact absurd hq (zag c r)
     | cons p q=>simp [curL,atL]
    rw [e]
  · rw [decide_eq_false hx,cond_false]
    have hlen:(done++[(a,cur)]).length=done.length+1:=by simp
    have hw:IntKind.wrap .i64 ((((done++[(a,cur)]).length:Nat):Int) - 1)=(done.length:Int):=by
     rw [zi (by omega)]; omega
    have hb:(decide ((0:Int)≤(done.length:Int))&&decide ((done.length:Int)<(((done++[(a,cur)]).length:Nat):Int)))=true:=by
     simp only [Bool.and_eq_true,decide_eq_true_eq]; omega
    have hi2:idx (done++[(a,cur)]) (done.length:Int)=some (a,cur):=by rw [zm]; simp
    have hsub:sub s (i:Int) ((i+1:Nat):Int)=some [x]:=by
     rw [zo s i (i+1) (by omega) (by omega)]
     have:(s.take (i+1)).drop i=[x]:=by
      rw [List.drop_take,h1]; simp
     rw [this]
    rw [hw,hb,cond_true,Nat.beq_refl,cond_true,hi2,za,hsub,za,growS (by simp; omega),cond_true,cond_true,za,Int.toNat_natCast,zr7]
    dsimp only
    obtain ⟨v',hv⟩:=ih done a (cur++[x]) v (i+1) m t1 (by omega) (by simp; omega) (by omega) (by omega) (by simp; omega)
    refine ⟨v',?_⟩
    have e:done++curL a (cur++[x]) (splitL c r)=done++curL a cur (splitL c (x::r)):=by
     rw [splitL,if_neg hx]
     congr 1
     cases hq:splitL c r with
     | nil=>exact absurd hq (zag c r)
     | cons p q =>
      simp only [curL,List.append_assoc,List.singleton_append,List.length_append,List.length_cons,List.length_nil]
      congr 2
      omega
    rw [← e,← hv]
    have:(done++[(a,cur)]).length=(done++[(a,cur++[x])]).length:=by simp
    rw [this]
theorem zoi (n:Nat) (hn:200000≤n) (c:UInt8) (s:List UInt8) (a:Int) (h0:0≤a∧a≤100000) (hs:s.length≤100000):F.zat n s (c.toNat:Int) a=some (atL (splitL c s) a):=by
 unfold F.zat
 obtain ⟨v',hv⟩:=zvs n _ (fun (e5_7:Nat×Nat) (e5_b0_0 e5_b1_0:Nat×List (Int×List UInt8)) =>
  bif Nat.beq e5_7.1 e5_b1_0.1 then
   some (e5_b1_0.2)
  else
   none) c s a h0 hs (1,[]) s [] a [] 1 0 n rfl (by omega) (by simp) (by omega) (by simp) (by simp)
 refine hv.trans ?_
 rw [Nat.beq_refl,cond_true]
 cases hq:splitL c s with
 | nil=>exact absurd hq (zag c s)
 | cons p q=>simp [curL,atL]
theorem zsf (n:Nat) (hn:200000≤n) {t:TagL} (h:TagLOK t):F.zbd n (t.1,t.2,())=some (tagGood t):=by
 obtain ⟨h1,h2⟩:=h
 unfold F.zbd tagGood
 simp only [zcj n (by omega) 2 t.1 1 64 rfl (by omega) (by omega) (by omega) (by omega),zcj n (by omega) 3 t.2 0 100 rfl (by omega) (by omega) (by omega) (by omega),za,za6]
 cases ((textF 2 t.1 1 64).1==0)<;>cases ((textF 3 t.2 0 100).1==0)<;>rfl
theorem zpp (n:Nat) (X:Type) (k2:List UInt8→List TagL→Int→Int→List UInt8→Int→Int→List UInt8→List UInt8→Nat→Option X) (v0:List UInt8) (v4:List TagL) (v5 v6:Int) (p:List UInt8) (hp:p.length≤100000) (b0 b1:Int) (vk:Nat):∀ (k m:Nat) (key val:List UInt8),k≤p.length→k<m →
 F.zk.L10 n k2 m v0 v4 v5 v6 p ((k:Int) - 1) b0 b1 key val vk=if (58:UInt8)∈p.take k then k2 v0 v4 v5 v6 p b0 b1 (seg 58 p) (restN 58 p) vk else k2 v0 v4 v5 v6 p b0 b1 key val vk:=by
 intro k
 induction k with
 | zero =>
  intro m key val hk hm
  obtain ⟨m,rfl⟩:∃ q,m=q+1:=⟨m - 1,by omega⟩
  rw [F.zk.L10]
  unfold F.zk.L10.step
  dsimp only
  rw [ze (by omega),if_neg (by simp)]
 | succ k ih =>
  intro m key val hk hm
  obtain ⟨m,rfl⟩:∃ q,m=q+1:=⟨m - 1,by omega⟩
  have hkp:(((k+1:Nat):Int) - 1)=(k:Int):=by omega
  have hw:IntKind.wrap .i64 ((k:Int) - 1)=(k:Int) - 1:=zi (by omega)
  have ht:p.take (k+1)=p.take k++[p[k]]:=by rw [List.take_add_one]; simp [show k<p.length by omega]
  have hb:(((p[k].toNat:Nat):Int)==58)=decide (p[k]=58):=zaq p[k] 58
  rw [F.zk.L10]
  unfold F.zk.L10.step
  dsimp only
  rw [hkp,zd (by omega),zcf (by omega:k<p.length),za,hw,hb,ht]
  by_cases hx:p[k]=58
  · rw [decide_eq_true hx,cond_true,zh (by omega),show (0:Int)=((0:Nat):Int) from rfl,zo p 0 k (by omega) (by omega),za,zo p (k+1) p.length (by omega) (by omega),za,List.drop_zero,List.take_length]
    rw [ih m _ _ (by omega) (by omega),if_pos (List.mem_append.2 (Or.inr (List.mem_singleton.2 hx.symm)))]
    by_cases hin:(58:UInt8)∈p.take k
    · rw [if_pos hin]
    · rw [if_neg hin]
      have hd:p=p.take k++58::p.drop (k+1):=by
       have:p.drop k=58::p.drop (k+1):=by rw [List.drop_eq_getElem_cons (by omega),hx]
       rw [← this,List.take_append_drop]
      have e1:seg 58 p=p.take k:=by
       rw [hd]
       have:=zdy hin (p.drop (k+1))
       rw [this,← hd]
      have e2:restN 58 p=p.drop (k+1):=by
       unfold restN
       have hmem:(58:UInt8)∈p:=by rw [hd]; simp
       rw [if_pos hmem,e1,List.length_take,Nat.min_eq_left (by omega)]
      rw [e1,e2]
  · rw [decide_eq_false hx,cond_false,ih m _ _ (by omega) (by omega)]
    by_cases hin:(58:UInt8)∈p.take k
    · rw [if_pos hin,if_pos (List.mem_append.2 (Or.inl hin))]
    · rw [if_neg hin,if_neg (fun h=>(List.mem_append.1 h).elim hin (fun h=>hx (List.mem_singleton.1 h).symm))]
end Go.AM
set_option linter.unusedVariables false
set_option linter.unusedSimpArgs false
namespace Go.AM
abbrev KR:=List UInt8→Int→List DecL→Int→List TagL→Int→Int→Int→List UInt8→Int→List DecL→Int→List TagL→Int→Int→Int→Int→Int→Int→Int→Nat→Nat→Nat→Option ParseD
abbrev K8:=List UInt8→List (List UInt8)→List UInt8→Int→List DecL→Int→List TagL→Int→Int→Int→List UInt8→Int→List DecL→Int→List TagL→Int→Int→Int→Int→Int→Nat→Nat→Nat→Option ParseD
def badP (e a:Int):ParseD:=(zeroM,(e,a,()),())
theorem zpq (n:Nat) (hn:200000≤n) (k1 kr:KR) (ps:List (List UInt8)) (hs:sumL ps≤9000)
 (c0:List UInt8) (c1:Int) (c2:List DecL) (c3:Int) (c4:List TagL) (c5 d0 d1:Int) (e0:List UInt8) (e1:Int) (e3:Int) (e4:List TagL) (e5 e7 f0 f1:Int) (q0 q1:Nat)
 (hbad:∀ acc a l,kr c0 c1 c2 c3 c4 c5 d0 d1 e0 e1 acc e3 e4 e5 0 e7 f0 f1 17 a q0 q1 l=some (badP 17 a)) :
 ∀ (r:List (List UInt8)) (acc:List DecL) (a:Int) (i m:Nat),ps.drop i=r→acc.length≤i→i≤ps.length→r.length<m→0≤a→a+sumL r≤10000 →
 F.ze.L9_dog_reader_first n k1 kr m a ps (ps.length:Int) (i:Int) c0 c1 c2 c3 c4 c5 d0 d1 e0 e1 acc e3 e4 e5 0 e7 f0 f1 0 0 q0 q1 acc.length=match readVals r acc a with
  | .ok vs=>k1 c0 c1 c2 c3 c4 c5 d0 d1 e0 e1 vs e3 e4 e5 0 e7 f0 f1 0 0 q0 q1 vs.length
  | .error b=>some (badP 17 b):=by
 intro r
 have hpl:=zau ps
 induction r with
 | nil =>
  intro acc a i m h1 h2 hi hm ha has
  obtain ⟨m,rfl⟩:∃ q,m=q+1:=⟨m - 1,by omega⟩
  rw [F.ze.L9_dog_reader_first]
  unfold F.ze.L9_dog_reader_first.step
  dsimp only
  rw [ze (by have:=zl h1; omega)]
  rfl
 | cons p r ih =>
  intro acc a i m h1 h2 hi hm ha has
  obtain ⟨m,rfl⟩:∃ q,m=q+1:=⟨m - 1,by simp at hm; omega⟩
  obtain ⟨l1,g1,t1⟩:=zk h1
  simp only [List.length_cons] at hm
  simp only [sumL,List.map_cons,List.sum_cons] at has
  have hp:=zca (List.mem_of_getElem? g1)
  have hih:=ih (acc++[((parseR p).1.1,(parseR p).1.2.1,(parseR p).1.2.2.1)]) (a+p.length+1) (i+1) m t1 (by simp; omega) (by omega) (by omega) (by omega) (by simp only [sumL]; omega)
  have hw:IntKind.wrap .i64 (a+IntKind.wrap .i64 ((p.length:Int)+1))=a+p.length+1:=by
   rw [zh (by omega),zi (by omega)]; omega
  have hw0:IntKind.wrap .i64 (0+a)=a:=by rw [Int.zero_add,zi (by omega)]
  have hg:(decide ((acc.length+1)*24≤2 ^ 46)&&decide (0<24∧24≤2 ^ 20))=true:=by rw [decide_eq_true (by omega)]; rfl
  have h64:((acc.length:Int)==64)=decide (acc.length=64):=by
   by_cases h:acc.length=64
   · rw [h]; rfl
   · rw [decide_eq_false h,beq_eq_false_iff_ne]; omega
  rw [F.ze.L9_dog_reader_first]
  unfold F.ze.L9_dog_reader_first.step
  dsimp only
  rw [zd (by omega),zm,g1,za,zdo n hn p (by omega),za,zh3,hw,hw0,zh (by omega),hg,Nat.beq_refl,cond_true,cond_true,h64,readVals]
  by_cases h0:(parseR p).2.1.1=0
  · rw [decide_eq_true h0,Bool.not_true,cond_false]
    by_cases h6:acc.length=64
    · rw [decide_eq_true h6,cond_true,if_neg (by simp [h6])]
      exact hbad _ _ _
    · rw [decide_eq_false h6,cond_false,if_pos ⟨h0,h6⟩]
      exact hih
  · rw [decide_eq_false h0,Bool.not_false,cond_true,if_neg (by simp [h0])]
    exact hbad _ _ _
theorem zft (n:Nat) (c x:UInt8) (s:List UInt8):F.zaj n (x::s) [c]=some (if x=c then (s,true,()) else (x::s,false,())):=by
 unfold F.zaj F.za7 F.zao
 have h1:sub (x::s) 0 (([c]:List UInt8).length:Int)=some [x]:=by
  rw [show (0:Int)=((0:Nat):Int) from rfl,show (([c]:List UInt8).length:Int)=((1:Nat):Int) from rfl,zo (x::s) 0 1 (by omega) (by simp)]; rfl
 have h2:sub (x::s) (([c]:List UInt8).length:Int) ((x::s).length:Int)=some s:=by
  rw [show (([c]:List UInt8).length:Int)=((1:Nat):Int) from rfl,zo (x::s) 1 _ (by simp) (by omega),List.take_length]; rfl
 rw [zd (by simp; omega),h1,h2]
 by_cases h:x=c
 · subst h
   simp
 · rw [if_neg h]
   have:([x]==[c])=false:=by simpa using h
   simp [this]
theorem zeq (n:Nat) (c:UInt8):F.zaj n [] [c]=some ([],false,()):=rfl
theorem zmk (s:List UInt8):((rateR s).2.1.1==0&&(rateR s).2.1.2.1==0)=decide ((rateR s).2.1.1=0):=by
 by_cases h:(rateR s).2.1.1=0
 · rw [decide_eq_true h,h,(ziq h).1]; rfl
 · rw [decide_eq_false h,beq_eq_false_iff_ne.2 h]; rfl
theorem zml (s:List UInt8):((parseNum s 1 1099511627776).2.1.1==0&&(parseNum s 1 1099511627776).2.1.2.1==0)=decide ((parseNum s 1 1099511627776).2.1.1=0):=by
 by_cases h:(parseNum s 1 1099511627776).2.1.1=0
 · rw [decide_eq_true h,h,(zeh h).1]; rfl
 · rw [decide_eq_false h,beq_eq_false_iff_ne.2 h]; rfl
theorem zfu:∀ (r:List (List UInt8)) (acc:List TagL) (a:Int) (l:List TagL),tagsR r acc a = .ok l→l.length=acc.length+r.length
 | [],acc,a,l,h=>by cases h; simp
 | p :: r,acc,a,l,h=>by
  rw [tagsR] at h
  split at h
  · have:=zfu r _ _ _ h
    simp at this ⊢; omega
  · cases h
theorem zy1 (n:Nat) (hn:200000≤n) (k0 kr:KR) (p:List UInt8) (hs:p.length≤9000)
 (c0:List UInt8) (c1:Int) (c2:List DecL) (c3:Int) (c4:List TagL) (c5 d0 d1:Int) (e0:List UInt8) (e1:Int) (e2:List DecL) (e3:Int) (e4:List TagL) (e5 a last f0 f1:Int) (q0 q1 q2:Nat) (ha:0≤a∧a≤100000)
 (hk0:k0 c0 c1 c2 c3 c4 c5 d0 d1 e0 e1 e2 e3 e4 e5 a last f0 f1 0 0 q0 q1 q2=some (badP 11 a))
 (hbad:∀ l e,e≠0→kr c0 c1 c2 c3 c4 c5 d0 d1 e0 e1 e2 e3 e4 e5 a l f0 f1 e a q0 q1 q2=some (badP e a)) (m:Nat) (hm:5≤m) :
 F.ze.L2_dog_reader_more n k0 kr m p ([64],(),[35],(),[84],(),()) (0:Int) c0 c1 c2 c3 c4 c5 d0 d1 e0 e1 e2 e3 e4 e5 a last f0 f1 0 0 q0 q1 q2=match moreR (e0,e1,e2,e3,e4,e5,()) last p with
  | .error e=>some (badP e a)
  | .ok (w,l)=>kr c0 c1 c2 c3 c4 c5 d0 d1 w.1 w.2.1 w.2.2.1 w.2.2.2.1 w.2.2.2.2.1 w.2.2.2.2.2.1 a l f0 f1 0 0 q0 q1 q2:=by
 obtain ⟨m,rfl⟩:∃ q,m=q+4:=⟨m - 4,by omega⟩
 have hw0:IntKind.wrap .i64 (a+0)=a:=by rw [Int.add_zero,zi (by omega)]
 have w1:IntKind.wrap .i64 ((0:Int)+1)=1:=rfl
 have w2:IntKind.wrap .i64 ((1:Int)+1)=2:=rfl
 have w3:IntKind.wrap .i64 ((2:Int)+1)=3:=rfl
 have b1:((1:Int)==0)=false:=rfl
 have b2:((2:Int)==0)=false:=rfl
 have b3:((2:Int)==1)=false:=rfl
 cases p with
 | nil =>
  rw [moreR]
  rw [F.ze.L2_dog_reader_more]
  unfold F.ze.L2_dog_reader_more.step
  dsimp only
  rw [zd (by omega),beq_self_eq_true,cond_true,zeq,za,Bool.not_false,cond_true,w1,F.ze.L2_dog_reader_more]
  unfold F.ze.L2_dog_reader_more.step
  dsimp only
  rw [zd (by omega),b1,beq_self_eq_true,cond_true,cond_false,zeq,za,Bool.not_false,cond_true,w2,F.ze.L2_dog_reader_more]
  unfold F.ze.L2_dog_reader_more.step
  dsimp only
  rw [zd (by omega),b2,b3,beq_self_eq_true,cond_true,cond_false,cond_false,zeq,za,Bool.not_false,cond_true,w3,F.ze.L2_dog_reader_more]
  unfold F.ze.L2_dog_reader_more.step
  dsimp only
  rw [ze (by omega)]
  exact hk0
 | cons x s =>
  simp only [List.length_cons] at hs
  rw [moreR]
  rw [F.ze.L2_dog_reader_more]
  unfold F.ze.L2_dog_reader_more.step
  dsimp only
  rw [zd (by omega),beq_self_eq_true,cond_true,zft,za,w1,hw0]
  by_cases h64:x=64
  · rw [if_pos h64,if_pos h64]
    dsimp only
    rw [Bool.not_true,cond_false,bdec]
    by_cases hl:0<last
    · rw [if_pos hl,if_pos hl]; exact hk0
    · rw [if_neg hl,if_neg hl,zl0 n (by omega) s (by omega) (by omega),za,zmk]
      by_cases h0:(rateR s).2.1.1=0
      · rw [decide_eq_true h0,Bool.not_true,cond_false]
        by_cases h2:e1=2
        · rw [h2,beq_self_eq_true,cond_true]
          by_cases h1:(rateR s).1=1000000
          · rw [h1,beq_self_eq_true,Bool.not_true,cond_false,if_neg (by simp [h0])]
          · rw [beq_eq_false_iff_ne.2 h1,Bool.not_false,cond_true,if_pos (by simp [h1])]
            rw [h2] at hbad
            exact hbad _ _ (by decide)
        · rw [beq_eq_false_iff_ne.2 h2,cond_false,if_neg (by simp [h0,h2])]
      · rw [decide_eq_false h0,Bool.not_false,cond_true,if_pos (by simp [h0])]
        exact hbad _ _ (by decide)
  rw [if_neg h64,if_neg h64]
  dsimp only
  rw [Bool.not_false,cond_true]
  rw [F.ze.L2_dog_reader_more]
  unfold F.ze.L2_dog_reader_more.step
  dsimp only
  rw [zd (by omega),b1,beq_self_eq_true,cond_false,cond_true,zft,za,w2,hw0]
  by_cases h35:x=35
  · rw [if_pos h35,if_pos h35]
    dsimp only
    rw [Bool.not_true,cond_false,bdec]
    by_cases hl:1<last
    · rw [if_pos hl,if_pos hl]; exact hk0
    · have hsl:=zao 44 s
      have hsn:=zau (splitL 44 s)
      rw [if_neg hl,if_neg hl,znk n hn s (by omega),za]
      cases hT:tagsR (splitL 44 s) [] 0 with
      | error e =>
       dsimp only
       rw [show ((19:Int)==0)=false from rfl,Bool.false_and,Bool.not_false,cond_true]
       exact hbad _ _ (by decide)
      | ok l =>
       have hll:=zfu _ _ _ _ hT
       simp only [List.length_nil,Nat.zero_add] at hll
       dsimp only
       rw [beq_self_eq_true,Bool.and_self,Bool.not_true,cond_false,bdec]
       by_cases h32:32<l.length
       · rw [if_pos (by omega),if_pos h32]
         exact hbad _ _ (by decide)
       · rw [if_neg (by omega),if_neg h32,zfp n hn l (by omega),za]
  rw [if_neg h35,if_neg h35]
  dsimp only
  rw [Bool.not_false,cond_true]
  rw [F.ze.L2_dog_reader_more]
  unfold F.ze.L2_dog_reader_more.step
  dsimp only
  rw [zd (by omega),b2,b3,beq_self_eq_true,cond_false,cond_false,cond_true,zft,za,w3,hw0]
  by_cases h84:x=84
  · rw [if_pos h84,if_pos h84]
    dsimp only
    rw [Bool.not_true,cond_false,bdec]
    by_cases hl:2<last
    · rw [if_pos hl,if_pos hl]; exact hk0
    · rw [if_neg hl,if_neg hl,zog n s (by omega) (by omega),za,zml]
      by_cases h0:(parseNum s 1 1099511627776).2.1.1=0
      · rw [decide_eq_true h0,Bool.not_true,cond_false,if_neg (by simp [h0])]
      · rw [decide_eq_false h0,Bool.not_false,cond_true,if_pos h0]
        exact hbad _ _ (by decide)
  rw [if_neg h84,if_neg h84]
  dsimp only
  rw [Bool.not_false,cond_true]
  rw [F.ze.L2_dog_reader_more]
  unfold F.ze.L2_dog_reader_more.step
  dsimp only
  rw [ze (by omega)]
  exact hk0
structure K8OK (s:List UInt8) (ps:List (List UInt8)) (k0:K8):Prop where
 bad:∀ c0 c1 c2 c3 c4 c5 d0 d1 e0 e1 e2 e3 e4 e5 e6 e7 e a q0 q1 q2,e≠0→k0 s ps c0 c1 c2 c3 c4 c5 d0 d1 e0 e1 e2 e3 e4 e5 e6 e7 e a q0 q1 q2=some (badP e a)
 ok:2≤ps.length→∀ c0 c1 c2 c3 c4 c5 d0 d1 e0 e1 e2 e3 e4 e5 e6 e7 q0 q1 q2,k0 s ps c0 c1 c2 c3 c4 c5 d0 d1 e0 e1 e2 e3 e4 e5 e6 e7 0 0 q0 q1 q2=some ((e0,e1,e2,e3,e4,e5,()),(0,0,()),())
 one:ps.length<2→∀ c0 c1 c2 c3 c4 c5 d0 d1 e0 e1 e2 e3 e4 e5 e6 e7 q0 q1 q2,k0 s ps c0 c1 c2 c3 c4 c5 d0 d1 e0 e1 e2 e3 e4 e5 e6 e7 0 0 q0 q1 q2=some (badP 11 (s.length:Int))
theorem zoj {a:Int} (p:List UInt8) (h:0≤a∧a+p.length+1≤100000):IntKind.wrap .i64 (a+IntKind.wrap .i64 ((p.length:Int)+1))=a+p.length+1:=by
 rw [zh (by omega),zi (by omega)]; omega
theorem zpr (n:Nat) (hn:200000≤n) (k0:K8) (s:List UInt8) (ps:List (List UInt8)) (hs:sumL ps≤9000) (hk:K8OK s ps k0) (h2:2≤ps.length)
 (c0:List UInt8) (c1:Int) (c2:List DecL) (c3:Int) (c4:List TagL) (c5 d0 d1:Int) (q0 q1 q2:Nat) :
 ∀ (r:List (List UInt8)) (a:Int) (w:MetD) (last:Int) (i m:Nat),ps.drop i=r→2≤i→i≤ps.length→r.length<m→0≤a→a+sumL r≤10000 →
 F.ze.L8 n k0 m s ps ps (ps.length:Int) (i:Int) c0 c1 c2 c3 c4 c5 d0 d1 w.1 w.2.1 w.2.2.1 w.2.2.2.1 w.2.2.2.2.1 w.2.2.2.2.2.1 a last 0 0 q0 q1 q2=some (outP (restR r a w last)):=by
 intro r
 have hpl:=zau ps
 induction r with
 | nil =>
  intro a w last i m h1 hi2 hi hm ha has
  obtain ⟨m,rfl⟩:∃ q,m=q+1:=⟨m - 1,by omega⟩
  rw [F.ze.L8]
  unfold F.ze.L8.step
  dsimp only
  rw [ze (by have:=zl h1; omega),restR]
  exact hk.ok h2 _ _ _ _ _ _ _ _ _ _ _ _ _ _ _ _ _ _ _
 | cons p r ih =>
  intro a w last i m h1 hi2 hi hm ha has
  obtain ⟨m,rfl⟩:∃ q,m=q+1:=⟨m - 1,by simp at hm; omega⟩
  obtain ⟨l1,g1,t1⟩:=zk h1
  simp only [List.length_cons] at hm
  simp only [sumL,List.map_cons,List.sum_cons] at has
  have hp:=zca (List.mem_of_getElem? g1)
  have hw0:IntKind.wrap .i64 (a+0)=a:=by rw [Int.add_zero,zi (by omega)]
  rw [F.ze.L8]
  unfold F.ze.L8.step
  dsimp only
  rw [zd (by omega),zm,g1,za,ze (by omega:¬ (i:Int)<2)]
  refine (zy1 n hn _ _ p (by omega) c0 c1 c2 c3 c4 c5 d0 d1 w.1 w.2.1 w.2.2.1 w.2.2.2.1 w.2.2.2.2.1 w.2.2.2.2.2.1 a last 0 0 q0 q1 q2 (by omega) ?_ ?_ n (by omega)).trans ?_
  · rw [hw0,Bool.false_and,Bool.not_false,cond_true]
    exact hk.bad _ _ _ _ _ _ _ _ _ _ _ _ _ _ _ _ _ _ _ _ _ (by decide)
  · intro l e he
    rw [beq_eq_false_iff_ne.2 he,Bool.false_and,Bool.not_false,cond_true]
    exact hk.bad _ _ _ _ _ _ _ _ _ _ _ _ _ _ _ _ _ _ _ _ _ he
  · have hww:(w.1,w.2.1,w.2.2.1,w.2.2.2.1,w.2.2.2.2.1,w.2.2.2.2.2.1,())=w:=rfl
    rw [hww,restR]
    cases moreR w last p with
    | error e=>rfl
    | ok x =>
     obtain ⟨w',l'⟩:=x
     dsimp only
     rw [zoj p (by omega),zh (by omega)]
     exact ih (a+p.length+1) w' l' (i+1) m t1 (by omega) (by omega) (by omega) (by omega) (by simp only [sumL]; omega)
theorem nameB (s:List UInt8):(((textF 1 s 1 200).1==0)&&((textF 1 s 1 200).2.1==0))=nameOK s:=za6 1 s 1 200
theorem zvt (n:Nat) (hn:200000≤n) (k0:K8) (s:List UInt8) (ps:List (List UInt8)) (hne:ps≠[]) (hs:sumL ps≤9000) (hsl:s.length≤9000) (hk:K8OK s ps k0) (c0:List UInt8) (c1:Int) (c2:List DecL) (c3:Int) (c4:List TagL) (c5 d0 d1:Int) (q0 q1:Nat) :
 F.ze.L8 n k0 n s ps ps (ps.length:Int) (0:Int) c0 c1 c2 c3 c4 c5 d0 d1 [] 0 [] 1000000 [] 0 0 0 0 0 q0 q1 0=some (outP (linesR s ps)):=by
 have hpl:=zau ps
 cases ps with
 | nil=>exact absurd rfl hne
 | cons p r =>
  obtain ⟨m,hm⟩:∃ q,n=q+2:=⟨n - 2,by omega⟩
  have hp:=zca (show p∈p::r by simp)
  have hseg:=z6 58 p
  have hrn:=zeo 58 p
  have hcut:F.zap n p [58]=some (seg 58 p,restN 58 p,decide (58∈p),()):=zbz n 58 (by omega)
  have hw0:∀ x:Int,0≤x∧x≤100000→IntKind.wrap .i64 (0+x)=x:=fun x hx=>by rw [Int.zero_add,zi (by omega)]
  have key:∀ m,20001≤m+1→F.ze.L8 n k0 (m+1) s (p::r) (p::r) ((p::r).length:Int) (0:Int) c0 c1 c2 c3 c4 c5 d0 d1 [] 0 [] 1000000 [] 0 0 0 0 0 q0 q1 0=match firstR p with
   | .error e=>some (badP e.1 e.2)
   | .ok x=>F.ze.L8 n k0 m s (p::r) (p::r) ((p::r).length:Int) ((1:Nat):Int) c0 c1 c2 c3 c4 c5 d0 d1 x.1 0 x.2 1000000 [] 0 ((p.length:Int)+1) 0 0 0 q0 q1 x.2.length:=by
   intro m hm
   rw [F.ze.L8]
   unfold F.ze.L8.step
   dsimp only
   rw [zd (by simp only [List.length_cons]; omega),show idx (p::r) 0=some p from rfl,za,zd (by omega:(0:Int)<2),beq_self_eq_true,cond_true,hcut,za]
   dsimp only
   rw [zbh n 1 _ 1 200 (by omega) (by omega),za,nameB]
   unfold firstR
   cases hnm:nameOK (seg 58 p)
   · rw [Bool.not_false,cond_true,if_pos rfl,hw0 0 (by omega),Bool.false_and,Bool.not_false,cond_true]
     exact hk.bad _ _ _ _ _ _ _ _ _ _ _ _ _ _ _ _ _ _ _ _ _ (by decide)
   · rw [Bool.not_true,cond_false,if_neg (by simp)]
     by_cases hin:(58:UInt8)∈p
     · rw [decide_eq_true hin,Bool.not_true,cond_false,if_neg (by simp [hin]),zg8 n 58 (by omega),za]
       have hsum:=zao 58 (restN 58 p)
       have hsn:=zau (splitL 58 (restN 58 p))
       have hrl:(seg 58 p).length+1+(restN 58 p).length≤p.length:=by
        unfold restN
        rw [if_pos hin,List.length_drop]
        have:=zae hin
        omega
       have hA:IntKind.wrap .i64 (((seg 58 p).length:Int)+1)=((seg 58 p).length:Int)+1:=zi (by omega)
       have hP:IntKind.wrap .i64 ((p.length:Int)+1)=(p.length:Int)+1:=zi (by omega)
       rw [hA,hP]
       refine (zpq n hn _ _ (splitL 58 (restN 58 p)) (by omega) c0 c1 c2 c3 c4 c5 d0 d1 (seg 58 p) 0 1000000 [] 0 0 0 0 q0 q1 ?_ (splitL 58 (restN 58 p)) [] _ 0 n rfl (by simp) (by omega) (by omega) (by omega) (by omega)).trans ?_
       · intro acc a l
         rw [show ((17:Int)==0)=false from rfl,Bool.false_and,Bool.not_false,cond_true]
         exact hk.bad _ _ _ _ _ _ _ _ _ _ _ _ _ _ _ _ _ _ _ _ _ (by decide)
       · cases readVals (splitL 58 (restN 58 p)) [] (((seg 58 p).length:Int)+1) with
         | error b=>rfl
         | ok vs =>
          dsimp only
          rw [Bool.and_self,Bool.not_true,cond_false,hw0 ((p.length:Int)+1) (by omega)]
          rfl
     · rw [decide_eq_false hin,Bool.not_false,cond_true,if_pos hin,hw0 _ (by omega),Bool.false_and,Bool.not_false,cond_true]
       exact hk.bad _ _ _ _ _ _ _ _ _ _ _ _ _ _ _ _ _ _ _ _ _ (by decide)
  have key2:∀ m,20001≤m+1→∀ nm (vs:List DecL) (a:Int) (l:Nat),a=(p.length:Int)+1→F.ze.L8 n k0 (m+1) s (p::r) (p::r) ((p::r).length:Int) ((1:Nat):Int) c0 c1 c2 c3 c4 c5 d0 d1 nm 0 vs 1000000 [] 0 a 0 0 0 q0 q1 l=some (outP (secondR s p nm vs r)):=by
   intro m hm nm vs a l hA
   rw [F.ze.L8]
   unfold F.ze.L8.step
   dsimp only
   cases r with
   | nil =>
    rw [ze (by simp),secondR]
    exact hk.one (by simp) _ _ _ _ _ _ _ _ _ _ _ _ _ _ _ _ _ _ _
   | cons q r =>
    have hq:=zca (show q∈p::q::r by simp)
    rw [zd (by simp only [List.length_cons]; omega),show idx (p::q::r) ((1:Nat):Int)=some q from rfl,za,zd (by omega),show (((1:Nat):Int)==0)=false from rfl,cond_false,show (((1:Nat):Int)==1)=true from rfl,cond_true,zy0 n (by omega),za]
    have hwa:IntKind.wrap .i64 (a+0)=a:=by rw [Int.add_zero,zi (by omega)]
    rw [secondR]
    by_cases h0:kindR q=0
    · rw [if_pos h0,if_pos h0]
      dsimp only
      rw [show ((16:Int)==0)=false from rfl,Bool.not_false,cond_true,Bool.false_and,Bool.not_false,cond_true,hwa,hA]
      exact hk.bad _ _ _ _ _ _ _ _ _ _ _ _ _ _ _ _ _ _ _ _ _ (by decide)
    · rw [if_neg h0,if_neg h0]
      dsimp only
      rw [beq_self_eq_true,Bool.not_true,cond_false,Bool.and_self,Bool.not_true,cond_false]
      simp only [sumL,List.map_cons,List.sum_cons,List.length_cons] at hs hpl
      rw [zoj q (by omega),show IntKind.wrap .i64 (((1:Nat):Int)+1)=((2:Nat):Int) from rfl,hA]
      have:=zpr n hn k0 s (p::q::r) (by simp only [sumL,List.map_cons,List.sum_cons]; omega) hk (by simp) c0 c1 c2 c3 c4 c5 d0 d1 q0 q1 l r ((p.length:Int)+1+(q.length+1)) (nm,kindR q,vs,1000000,[],0,()) 0 2 m rfl (by omega) (by simp) (by omega) (by omega) (by simp only [sumL]; omega)
      rw [show (p.length:Int)+1+(q.length+1)=(p.length:Int)+1+q.length+1 by omega] at this ⊢
      exact this
  have k1:=key (m+1) (by omega)
  have k2:=key2 m (by omega)
  have hmm:n=m+1+1:=hm
  rw [linesR]
  have goal:∀ j,j=m+1+1→F.ze.L8 n k0 j s (p::r) (p::r) ((p::r).length:Int) (0:Int) c0 c1 c2 c3 c4 c5 d0 d1 [] 0 [] 1000000 [] 0 0 0 0 0 q0 q1 0=some (outP (match firstR p with
   | .error e => .error e
   | .ok x=>secondR s p x.1 x.2 r)):=by
   intro j hj
   rw [hj,k1]
   cases firstR p with
   | error e=>rfl
   | ok x=>exact k2 x.1 x.2 _ _ rfl
  exact goal n hmm
theorem zvu (n:Nat) (hn:200000≤n) (s:List UInt8) (hs:s.length≤1000000):F.ze n s=some (parseD s):=by
 unfold F.ze parseD
 rw [bdec]
 by_cases h:8192<s.length
 · rw [if_pos (by omega),if_pos h]; rfl
 · rw [if_neg (by omega),if_neg h,zg8 n 124 hs,za]
   have hsum:=zao 124 s
   refine zvt n hn _ s (splitL 124 s) (zag 124 s) (by omega) (by omega) ⟨?_,?_,?_⟩ [] 0 [] 0 [] 0 0 0 0 0
   · intro c0 c1 c2 c3 c4 c5 d0 d1 e0 e1 e2 e3 e4 e5 e6 e7 e a q0 q1 q2 he
     rw [beq_eq_false_iff_ne.2 he,Bool.false_and,cond_false,Bool.not_false,cond_true]
     rfl
   · intro h2 c0 c1 c2 c3 c4 c5 d0 d1 e0 e1 e2 e3 e4 e5 e6 e7 q0 q1 q2
     rw [beq_self_eq_true,Bool.and_self,cond_true,ze (by omega),Bool.not_true,cond_false]
   · intro h2 c0 c1 c2 c3 c4 c5 d0 d1 e0 e1 e2 e3 e4 e5 e6 e7 q0 q1 q2
     rw [beq_self_eq_true,Bool.and_self,cond_true,zd (by omega),Bool.false_and,Bool.not_false,cond_true]
     rfl
end Go.AM
set_option linter.unusedVariables false
set_option linter.unusedSimpArgs false
namespace Go.AM
theorem zvv {m:MetD} (h:RightM m) (hs:StrictT m.2.2.2.2.1):normM m=(m,0,()):=by
 have hv:=(zct h).1
 have e1:m.2.2.1.map normV=m.2.2.1:=by
  have:m.2.2.1.map normV=m.2.2.1.map id:=List.map_congr_left (fun d hd=>(zvp (hv d hd).1 (hv d hd).2).2)
  rw [this,List.map_id]
 have e2:valsM m=m:=by unfold valsM; rw [e1]
 unfold normM
 rw [e2,if_pos h.chk]
 unfold formM
 rw [e1,zvk hs]
theorem zps (n:Nat) (hn:200000≤n) {m:MetD} (h:RightM m) (hs:StrictT m.2.2.2.2.1):F.zi n m=some (lineD m,0,()):=by
 rw [zyz n hn m h.ok]
 unfold lineM
 rw [zvv h hs,if_pos rfl]
theorem zpt (n:Nat) (hn:100≤n) (s:List UInt8):F.za6 n s=some (kindR s):=by
 obtain ⟨m,hm⟩:∃ q,n=q+6:=⟨n - 6,by omega⟩
 unfold F.za6
 rw [show F.zbz n=some [[99],[103],[109,115],[104],[100]] from rfl,za]
 have L:∀ (k0:Unit→Option Int) (kr:Int→Option Int),F.za6.L3 n k0 kr (m+6) s [[99],[103],[109,115],[104],[100]] (0:Int)=if s=[99] then kr 1 else if s=[103] then kr 2 else if s=[109,115] then kr 3 else if s=[104] then kr 4 else if s=[100] then kr 5 else k0 ():=by
  intro k0 kr
  have e1:([99]==s)=decide (s=[99]):=by by_cases h:s=[99]<;>simp [h]; exact fun h'=>h h'.symm
  have e2:([103]==s)=decide (s=[103]):=by by_cases h:s=[103]<;>simp [h]; exact fun h'=>h h'.symm
  have e3:([109,115]==s)=decide (s=[109,115]):=by by_cases h:s=[109,115]<;>simp [h]; exact fun h'=>h h'.symm
  have e4:([104]==s)=decide (s=[104]):=by by_cases h:s=[104]<;>simp [h]; exact fun h'=>h h'.symm
  have e5:([100]==s)=decide (s=[100]):=by by_cases h:s=[100]<;>simp [h]; exact fun h'=>h h'.symm
  show (bif [99]==s then kr 1 else bif [103]==s then kr 2 else bif [109,115]==s then kr 3 else bif [104]==s then kr 4 else bif [100]==s then kr 5 else k0 ())=_
  rw [e1,e2,e3,e4,e5]
  simp only [bdec]
 rw [hm] at L ⊢
 refine (L _ _).trans ?_
 unfold kindR
 repeat' split
 all_goals rfl
end Go.AM
set_option linter.unusedVariables false
set_option linter.unusedSimpArgs false
namespace Go.AM
theorem zg9 {c:UInt8} {s:List UInt8} (h:c∉s):seg c s=s∧restN c s=[]:=⟨zal h,by unfold restN; rw [if_neg h]⟩
theorem zvw (p:List UInt8):(oneT (seg 58 p,restN 58 p)==p)=decide (¬ (58∈p∧restN 58 p=[])):=by
 by_cases hin:(58:UInt8)∈p
 · by_cases h0:restN 58 p=[]
   · rw [decide_eq_false (by simp [hin,h0]),beq_eq_false_iff_ne]
     unfold oneT
     rw [if_pos h0]
     intro h
     have:=zae hin
     have h:seg 58 p=p:=h
     rw [h] at this
     omega
   · rw [decide_eq_true (by simp [h0])]
     unfold oneT
     rw [if_neg h0]
     have h1:=zbi hin
     have h2:restN 58 p=p.drop ((seg 58 p).length+1):=by unfold restN; rw [if_pos hin]
     rw [← h2] at h1
     have:seg 58 p++([58]++restN 58 p)=p:=h1.symm
     rw [this,beq_self_eq_true]
 · obtain ⟨h1,h2⟩:=zg9 hin
   rw [decide_eq_true (by simp [hin])]
   unfold oneT
   rw [h1,h2,if_pos rfl,beq_self_eq_true]
theorem zjz (n : Nat) (hn : 200000≤n) (X:Type) (rec:List UInt8→List TagL→Int→Int→Int→Int→Nat→Option X) (kr:List TagL→Int→Int→Nat→Option X) (v0:List UInt8) (out:List TagL) (ho:out.length≤100000) (v5:Int) (i:Nat) (hi:i≤100000) (p:List UInt8) (hp:p.length≤9000) (b0 b1:Int) :
 F.zk.L10 n
  (fun e6_0 e6_4 e6_5 e6_6 e6_7 e6_b0_0 e6_b0_1 e6_b1_0 e6_b1_1 e6_k0 =>
   (F.zbd n (e6_b1_0,e6_b1_1,())).bind fun y7 =>
    bif !y7 then
     kr [] (19:Int) e6_5 0
    else
     (F.zbn n (e6_b1_0,e6_b1_1,())).bind fun y8 =>
      bif !(y8==e6_7) then
       kr [] (19:Int) e6_5 0
      else
      bif decide ((e6_4.length+1)*32≤2 ^ 46)&&decide (0<32∧32≤2 ^ 20) then
       bif Nat.beq e6_k0 e6_4.length then
        rec e6_0 (e6_4++([(e6_b1_0,e6_b1_1)])) (IntKind.wrap .i64 (e6_6+(1:Int))) (IntKind.wrap .i64 (e6_6+(1:Int))) e6_b0_0 e6_b0_1 ((e6_4++([(e6_b1_0,e6_b1_1)])).length)
       else
        none
      else
       none) n v0 out v5 (i:Int) p (IntKind.wrap .i64 ((p.length:Int) - (1:Int))) b0 b1 p [] out.length
 = if tagGood (seg 58 p,restN 58 p)=true∧¬ (58∈p∧restN 58 p=[]) then rec v0 (out++[(seg 58 p,restN 58 p)]) ((i:Int)+1) ((i+1:Nat):Int) b0 b1 (out++[(seg 58 p,restN 58 p)]).length else kr [] 19 v5 0:=by
 have hw:IntKind.wrap .i64 ((p.length:Int) - 1)=(p.length:Int) - 1:=zi (by omega)
 have hsl:=z6 58 p
 have hrl:=zeo 58 p
 rw [hw]
 refine (zpp n X _ v0 out v5 (i:Int) p (by omega) b0 b1 out.length p.length n p [] (by omega) (by omega)).trans ?_
 have body : (F.zbd n (seg 58 p,restN 58 p,())).bind (fun y7 =>
  bif !y7 then
   kr [] (19:Int) v5 0
  else
   (F.zbn n (seg 58 p,restN 58 p,())).bind fun y8 =>
    bif !(y8==p) then
     kr [] (19:Int) v5 0
    else
    bif decide ((out.length+1)*32≤2 ^ 46)&&decide (0<32∧32≤2 ^ 20) then
     bif Nat.beq out.length out.length then
      rec v0 (out++([(seg 58 p,restN 58 p)])) (IntKind.wrap .i64 ((i:Int)+(1:Int))) (IntKind.wrap .i64 ((i:Int)+(1:Int))) b0 b1 ((out++([(seg 58 p,restN 58 p)])).length)
     else
      none
    else
     none)=if tagGood (seg 58 p,restN 58 p)=true∧¬ (58∈p∧restN 58 p=[]) then rec v0 (out++[(seg 58 p,restN 58 p)]) ((i:Int)+1) ((i+1:Nat):Int) b0 b1 (out++[(seg 58 p,restN 58 p)]).length else kr [] 19 v5 0:=by
  have hr:=zsf n hn (t:=(seg 58 p,restN 58 p)) ⟨by show (seg 58 p).length≤10000; omega,by show (restN 58 p).length≤10000; omega⟩
  dsimp only at hr
  rw [hr,za]
  cases hg:tagGood (seg 58 p,restN 58 p)
  · rw [if_neg (by simp)]; rfl
  · have ho1:=zis n (t:=(seg 58 p,restN 58 p)) (zcs hg)
    dsimp only at ho1
    rw [Bool.not_true,cond_false,ho1,za,zvw]
    by_cases hc:¬ (58∈p∧restN 58 p=[])
    · rw [decide_eq_true hc,Bool.not_true,cond_false,zbj (by omega),Nat.beq_refl,cond_true,if_pos ⟨rfl,hc⟩,zh (by omega)]
      have:((i+1:Nat):Int)=(i:Int)+1:=by omega
      rw [this]
    · rw [decide_eq_false hc,Bool.not_false,cond_true,if_neg (fun h=>hc h.2)]
 rw [List.take_length]
 by_cases hin:(58:UInt8)∈p
 · rw [if_pos hin]
   exact body
 · rw [if_neg hin]
   obtain ⟨h1,h2⟩:=zg9 hin
   rw [h1,h2] at body ⊢
   exact body
def addL (cur:List UInt8):List (List UInt8)→List (List UInt8)
 | []=>[]
 | p::q=>(cur++p)::q
theorem zka (n:Nat) (hn:200000≤n) (X:Type) (k0 kr:List TagL→Int→Int→Nat→Option X) (s:List UInt8) (hs:s.length≤9000) (b0 b1:Int):∀ (r cur:List UInt8) (out:List TagL) (fr i m:Nat),s.drop i=r→i≤s.length→s.drop fr=cur++r→i=fr+cur.length→out.length≤i→r.length+1<m →
 F.zk.L4 n k0 kr m s out (fr:Int) (i:Int) b0 b1 out.length=match tagsR (addL cur (splitL 44 r)) out (fr:Int) with
  | .ok l=>k0 l b0 b1 l.length
  | .error e=>kr [] 19 e 0:=by
 intro r
 induction r with
 | nil =>
  intro cur out fr i m h1 hi h2 h3 ho hm
  obtain ⟨m,rfl⟩:∃ q,m=q+2:=⟨m - 2,by simp at hm; omega⟩
  have hil:s.length=i:=by have:=zl h1; omega
  have hsub:sub s (fr:Int) (i:Int)=some cur:=by
   rw [zo s fr i (by omega) (by omega),List.drop_take,h2,h3,List.append_nil]
   rw [List.take_of_length_le (by omega)]
  rw [F.zk.L4]
  unfold F.zk.L4.step
  dsimp only
  rw [zd (by omega),ze (by omega),hsub,za]
  refine (zjz n hn X _ kr s out (by omega) (fr:Int) i (by omega) cur (by omega) b0 b1).trans ?_
  simp only [splitL,addL,List.append_nil]
  rw [tagsR]
  split
  · rw [F.zk.L4]
    unfold F.zk.L4.step
    dsimp only
    rw [ze (by omega),tagsR]
  · rfl
 | cons x r ih =>
  intro cur out fr i m h1 hi h2 h3 ho hm
  obtain ⟨m,rfl⟩:∃ q,m=q+1:=⟨m - 1,by simp at hm; omega⟩
  obtain ⟨l1,g1,t1⟩:=zk h1
  simp only [List.length_cons] at hm
  have hsub:sub s (fr:Int) (i:Int)=some cur:=by
   rw [zo s fr i (by omega) (by omega),List.drop_take,h2,h3]
   rw [show fr+cur.length - fr=cur.length by omega,List.take_append_of_le_length (by omega),List.take_length]
  have hb:(((x.toNat:Nat):Int)==44)=decide (x=44):=zaq x 44
  rw [F.zk.L4]
  unfold F.zk.L4.step
  dsimp only
  rw [zd (by omega),zd (by omega),zm,g1,za,hb]
  by_cases hx:x=44
  · rw [decide_eq_true hx,Bool.not_true,cond_false,hsub,za]
    refine (zjz n hn X _ kr s out (by omega) (fr:Int) i (by omega) cur (by omega) b0 b1).trans ?_
    rw [splitL,if_pos hx]
    simp only [addL,List.append_nil]
    rw [tagsR]
    split
    · have hih:=ih [] (out++[(seg 58 cur,restN 58 cur)]) (i+1) (i+1) m t1 (by omega) (by rw [t1]; rfl) (by simp) (by simp; omega) (by omega)
      have e1:((i+1:Nat):Int)=(i:Int)+1:=by omega
      have e2:(fr:Int)+(cur.length:Int)+1=(i:Int)+1:=by omega
      have e3:addL [] (splitL 44 r)=splitL 44 r:=by cases splitL 44 r<;>rfl
      rw [e3] at hih
      rw [e2,← e1]
      exact hih
    · rfl
  · rw [decide_eq_false hx,Bool.not_false,cond_true,zh (by omega)]
    have hih:=ih (cur++[x]) out fr (i+1) m t1 (by omega) (by rw [h2]; simp) (by simp; omega) (by omega) (by omega)
    have e:addL (cur++[x]) (splitL 44 r)=addL cur (splitL 44 (x::r)):=by
     rw [splitL,if_neg hx]
     cases hq:splitL 44 r with
     | nil=>exact absurd hq (zag 44 r)
     | cons p q=>simp [addL]
    rw [e] at hih
    exact hih
theorem zvx (n:Nat) (hn:200000≤n) (s:List UInt8) (hs:s.length≤9000):F.zk n s=some (match tagsR (splitL 44 s) [] 0 with | .ok l=>(l,(0,0,()),()) | .error e=>([],(19,e,()),())):=by
 unfold F.zk
 refine (zka n hn _ _ _ s hs 0 0 s [] [] 0 0 n rfl (by omega) rfl rfl (by simp) (by omega)).trans ?_
 have e3:addL [] (splitL 44 s)=splitL 44 s:=by cases splitL 44 s<;>rfl
 rw [e3]
 show (match tagsR (splitL 44 s) [] 0 with | .ok l=>_ | .error e=>_)=_
 cases tagsR (splitL 44 s) [] 0<;>rfl
end Go.AM
