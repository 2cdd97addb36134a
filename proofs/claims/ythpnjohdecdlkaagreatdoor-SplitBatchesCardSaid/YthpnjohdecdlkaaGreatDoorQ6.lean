/- Which datagrams a batch has in a format, or which metric is wrong, and how; and which MTU is its least one. -/
import Derived.Test.YthpnjohdecdlkaaGreatDoorQ5
import Derived.KernelRfl
import Derived.Test.YthpnjohdecdlkaaGreatDoorCards
import Derived.Test.YthpnjohdecdlkaaGreatDoorTie
import Derived.OpenShut
set_option linter.unusedVariables false
set_option linter.unusedSimpArgs false
namespace Go.AM
def MetWf (m : MetD) : Prop:=(∀ d ∈ m.2.2.1,DecLOK d)
def valL : List DecL→List UInt8
  | [] => []
  | d :: _ => textD d.1 d.2.1.toNat d.2.2
theorem zax {m : MetD} (h : chkM m = 0) : nameOK m.1 = true ∧ kindB m.2.1 = true ∧ valsB m.2.2.1 = true ∧ rateB m.2.1 m.2.2.2.1 = true ∧ tagsB m.2.2.2.2.1 = true ∧ timeB m.2.2.2.2.2.1 = true:=by
  unfold chkM at h
  revert h
  cases nameOK m.1 <;> cases kindB m.2.1 <;> cases valsB m.2.2.1 <;> cases rateB m.2.1 m.2.2.2.1 <;> cases tagsB m.2.2.2.2.1 <;> cases timeB m.2.2.2.2.2.1 <;> simp
theorem zay {d : DecL} (hd : DecLOK d) (h : decC d = 0) : (textD d.1 d.2.1.toNat d.2.2).length ≤ 39:=by
  obtain ⟨neg,c,e,rfl,hc,he⟩:=zaw hd
  exact (ztw neg c hc e (za9 h).2).1
theorem zdw (n : Nat) (hn : 200000 ≤ n) {d : DecL} (hd : DecLOK d) (h : decC d = 0) : F.zbg n (d.1,d.2.1,d.2.2,()) = some (textD d.1 d.2.1.toNat d.2.2,0,()):=by
  obtain ⟨neg,c,e,rfl,hc,he⟩:=zaw hd
  have h' : checkR neg c e = 0:=h
  have:=ztv n hn neg c hc e he
  rw [if_pos h'] at this
  exact this
theorem zcx (n : Nat) (hn : 200000 ≤ n) {d : DecL} (hd : DecLOK d) (h : decC d = 0) : F.zm n (d.1,d.2.1,d.2.2,()) = some (textD d.1 d.2.1.toNat d.2.2):=by
  obtain ⟨neg,c,e,rfl,hc,he⟩:=zaw hd
  exact zt7 n hn neg c hc e (za9 h).2
end Go.AM
set_option linter.unusedVariables false
set_option linter.unusedSimpArgs false
namespace Go.AM
theorem zon {d : List UInt8} (hD : Digs d) (neg : Bool) (E : Int) : ((valR neg d E).2.1 = 10 ∧ (valR neg d E).1 = (false,0,0,())) ∨
    (∃ (neg' : Bool) (c : Nat) (e : Int),valR neg d E = ((neg',(c : Int),e,()),0,()) ∧ c < two64 ∧ (-9223372036854775808 ≤ e ∧ e ≤ 9223372036854775807) ∧ checkR neg' c e = 0):=by
  by_cases hv : val d = 0
  · refine Or.inr ⟨false,0,0,?_,by decide,by omega,?_⟩
    · have : valR neg d E = zeroD:=by unfold valR; rw [if_pos hv]
      rw [this]; rfl
    · have d0 : Lib.decDigits 0 = [48]:=zcd (by omega)
      unfold checkR
      rw [d0]; rfl
  · obtain ⟨c0,z,h1,h2⟩:=ziq (val d) (by omega)
    rw [zco hD h2 h1]
    generalize E + (z : Int) = Y
    by_cases hY : Y < -18
    · refine Or.inl ?_
      have : normR neg c0 Y = ((false,0,0,()),10,()):=by unfold normR; rw [if_pos hY]
      rw [this]
      exact ⟨rfl,rfl⟩
    · by_cases hf : c0 * 10 ^ (Y - 18).toNat < two64
      · have e1 : normR neg c0 Y = ((neg,((c0 * 10 ^ (Y - 18).toNat : Nat) : Int),(if Y ≤ 18 then Y else 18),()),0,()):=by unfold normR; rw [if_neg hY,if_pos hf]
        rw [e1]
        have hE : -18 ≤ (if Y ≤ 18 then Y else 18) ∧ (if Y ≤ 18 then Y else 18) ≤ 18:=by split <;> omega
        refine Or.inr ⟨neg,c0 * 10 ^ (Y - 18).toNat,(if Y ≤ 18 then Y else 18),rfl,hf,by omega,?_⟩
        unfold checkR
        rw [if_neg (by omega),zco (zbh _) h2 (zc9 _)]
        have e2 : (if Y ≤ 18 then Y else 18) + (((Y - 18).toNat : Nat) : Int) = Y:=by split <;> omega
        rw [e2,e1,if_pos ⟨rfl,rfl⟩]
      · refine Or.inl ?_
        have : normR neg c0 Y = ((false,0,0,()),10,()):=by unfold normR; rw [if_neg hY,if_neg hf]
        rw [this]
        exact ⟨rfl,rfl⟩
def decV (d : DecL) : DecR:=valR d.1 (Lib.decDigits d.2.1.toNat) d.2.2
def valOK (d : DecL) : Bool:=(decV d).2.1 == 0
def refV (d : DecL) : DecL:=((decV d).1.1,(decV d).1.2.1,(decV d).1.2.2.1)
def normV (d : DecL) : DecL:=if valOK d then refV d else d
theorem zxb (n : Nat) (hn : 100 ≤ n) {d : DecL} (h : DecLOK d) : F.zg n (d.1,d.2.1,d.2.2,()) = some (decV d):=by
  obtain ⟨neg,c,e,rfl,hc,he⟩:=zaw h
  exact zis n hn neg c hc e he
theorem zt8 (n : Nat) (hn : 200000 ≤ n) {d : DecL} (h : DecLOK d) : F.zbm n (d.1,d.2.1,d.2.2,()) = some (decV d):=by
  obtain ⟨neg,c,e,rfl,hc,he⟩:=zaw h
  unfold F.zbm decV
  have hl:=zav hc
  simp only [digits03 n (by omega) c hc,zni n hn neg _ (zbh c) (by omega) e,za,Int.toNat_natCast]
  rcases zqm neg (Lib.decDigits c) e with h | ⟨h1,h2⟩
  · rw [h]
    generalize valR neg (Lib.decDigits c) e = r at h ⊢
    obtain ⟨r1,r2,_⟩:=r
    simp only at h
    subst h
    rfl
  · rw [h1]
    generalize valR neg (Lib.decDigits c) e = r at h1 h2 ⊢
    obtain ⟨r1,r2,_⟩:=r
    simp only at h1 h2
    subst h1 h2
    rfl
theorem zcq {d : DecL} (h : valOK d = true) : normV d = refV d ∧ decC (normV d) = 0 ∧ DecLOK (normV d):=by
  have e : normV d = refV d:=by unfold normV; rw [if_pos h]
  refine ⟨e,?_⟩
  rw [e]
  unfold refV
  unfold valOK at h
  rcases zon (zbh d.2.1.toNat) d.1 d.2.2 with ⟨h1,_⟩ | ⟨neg,c,e,h1,h2,h3,h4⟩
  · exfalso
    have h1 : (decV d).2.1 = 10:=h1
    rw [h1] at h; cases h
  · have h1 : decV d = ((neg,(c : Int),e,()),0,()):=h1
    rw [h1]
    refine ⟨h4,trivial,⟨by simp,?_⟩,h3⟩
    have:=z8; simp only; omega
theorem ze2 {d : DecL} (hd : DecLOK d) (h : valOK d = false) : normV d = d ∧ decC d ≠ 0:=by
  refine ⟨by unfold normV; rw [if_neg (by rw [h]; simp)],fun h0 => ?_⟩
  obtain ⟨neg,c,e,rfl,hc,he⟩:=zaw hd
  have hh : decV (neg,(c : Int),e) = ((neg,(c : Int),e,()),0,()):=(za9 h0).1
  unfold valOK at h
  rw [hh] at h
  cases h
theorem zt9 {d : DecL} (hd : DecLOK d) (h0 : decC d = 0) : valOK d = true ∧ normV d = d:=by
  obtain ⟨neg,c,e,rfl,hc,he⟩:=zaw hd
  have hv:=(za9 h0).1
  have h1 : decV (neg,(c : Int),e) = ((neg,(c : Int),e,()),0,()):=hv
  have h2 : valOK (neg,(c : Int),e) = true:=by unfold valOK; rw [h1]; rfl
  refine ⟨h2,?_⟩
  unfold normV refV
  rw [if_pos h2,h1]
theorem zua {d : DecL} (hd : DecLOK d) : DecLOK (normV d):=by
  cases h : valOK d
  · rw [(ze2 hd h).1]; exact hd
  · exact (zcq h).2.2
theorem ziy {vs : List DecL} (h : ∀ d ∈ vs,DecLOK d) : ((vs.map normV).all fun d => decC d == 0) = vs.all valOK:=by
  induction vs with
  | nil => rfl
  | cons d vs ih =>
    rw [List.map_cons,List.all_cons,List.all_cons,ih (fun x hx => h x (List.mem_cons_of_mem _ hx))]
    congr 1
    cases hv : valOK d
    · obtain ⟨h1,h2⟩:=ze2 (h d (by simp)) hv
      rw [h1]; exact beq_eq_false_iff_ne.2 h2
    · rw [(zcq hv).2.1]; rfl
def zeroM : MetD:=([],(0 : Int),[],(0 : Int),[],(0 : Int),())
def valsM (m : MetD) : MetD:=(m.1,m.2.1,m.2.2.1.map normV,m.2.2.2.1,m.2.2.2.2.1,m.2.2.2.2.2.1,())
def formM (m : MetD) : MetD:=(m.1,m.2.1,m.2.2.1.map normV,m.2.2.2.1,normT m.2.2.2.2.1,m.2.2.2.2.2.1,())
def normM (m : MetD) : MetD × Int × Unit:=if chkM (valsM m) = 0 then (formM m,0,()) else (zeroM,chkM (valsM m),())
theorem zlf {m : MetD} (hm : MetOK m) : MetOK (valsM m):=by
  refine ⟨hm.1,⟨by rw [valsM]; simpa using hm.2.1.1,fun d hd => ?_⟩,hm.2.2⟩
  obtain ⟨x,hx,rfl⟩:=List.mem_map.1 hd
  exact zua (hm.2.1.2 x hx)
theorem zlg (m : MetD) (h : ∀ d ∈ m.2.2.1,DecLOK d) : chkM (valsM m) = restM m (m.2.2.1.all valOK):=by
  rw [zk5,← ziy h]
  unfold restM valsM
  simp only [List.length_map]
theorem zx6 {α : Type} (p r : List α) (x y : α) : upd (p ++ x :: r) p.length y = p ++ y :: r:=by
  rw [zfi,List.set_append_right _ _ (Nat.le_refl _),Nat.sub_self]; rfl
theorem zq5 (n : Nat) (hn : 200000 ≤ n) (X : Type) (k0 : (Nat × Nat)→List UInt8→Int→List DecL→Int→List TagL→Int→List UInt8→Int→List DecL→Int→List TagL→Int→(Nat × List DecL)→(Nat × List DecL)→Nat→Nat→Option X)
    (b00 : List UInt8) (b01 : Int) (b02 : List DecL) (b03 : Int) (b04 : List TagL) (b05 : Int) (b10 : List UInt8) (b11 : Int) (b12 : List DecL) (b13 : Int) (b14 : List TagL) (b15 : Int) (b2 : Nat × List DecL) (k1 k2 : Nat) (v N : Nat) (hN : N ≤ 10000) :
    ∀ (r p : List DecL) (i m : Nat),i + r.length = N→p.length = i→r.length < m→(∀ d ∈ r,DecLOK d) →
    F.zl.L3 n k0 m (v,N) (v,N) (N : Int) (i : Int) b00 b01 b02 b03 b04 b05 b10 b11 b12 b13 b14 b15 b2 (v,p ++ r) k1 k2 = k0 (v,N) b00 b01 b02 b03 b04 b05 b10 b11 b12 b13 b14 b15 b2 (v,p ++ r.map normV) k1 k2:=by
  intro r
  induction r with
  | nil =>
    intro p i m h1 h2 hm hok
    obtain ⟨m,rfl⟩ : ∃ q,m = q + 1:=⟨m - 1,by omega⟩
    rw [F.zl.L3]
    unfold F.zl.L3.step
    dsimp only
    rw [ze (by simp at h1; omega)]
    rfl
  | cons x r ih =>
    intro p i m h1 h2 hm hok
    obtain ⟨m,rfl⟩ : ∃ q,m = q + 1:=⟨m - 1,by simp at hm; omega⟩
    simp only [List.length_cons] at h1 hm
    have hx:=hok x (by simp)
    have hp : (p ++ x :: r)[i]? = some x:=by rw [← h2]; simp
    have hb1 : (decide ((0 : Int) ≤ (i : Int)) && decide ((i : Int) < (N : Int))) = true:=by simp; omega
    rw [F.zl.L3]
    unfold F.zl.L3.step
    dsimp only
    rw [zd (by omega : (i : Int) < (N : Int)),hb1,Nat.beq_refl,cond_true,cond_true,zk,hp,za,zxb n (by omega) hx,za,zh (by omega)]
    have step : ∀ y,y = normV x→F.zl.L3 n k0 m (v,N) (v,N) (N : Int) ((i + 1 : Nat) : Int) b00 b01 b02 b03 b04 b05 b10 b11 b12 b13 b14 b15 b2 (v,p ++ y :: r) k1 k2 = k0 (v,N) b00 b01 b02 b03 b04 b05 b10 b11 b12 b13 b14 b15 b2 (v,p ++ (x :: r).map normV) k1 k2:=by
      intro y hy
      have:=ih (p ++ [y]) (i + 1) m (by omega) (by simp; omega) (by omega) (fun d hd => hok d (List.mem_cons_of_mem _ hd))
      rw [List.append_assoc,List.append_assoc,List.singleton_append,List.singleton_append] at this
      rw [this,hy,List.map_cons]
    cases hv : valOK x
    · have hv' : ((decV x).2.1 == 0) = false:=hv
      rw [hv',cond_false]
      exact step x (ze2 hx hv).1.symm
    · have hv' : ((decV x).2.1 == 0) = true:=hv
      rw [hv',cond_true,cond_true,cond_true,za,Int.toNat_natCast,← h2,zx6,h2]
      exact step _ (zcq hv).1.symm
theorem zlh (n : Nat) (hn : 200000 ≤ n) (m : MetD) (hm : MetOK m) (v : Nat) (b10 : List UInt8) (b11 : Int) (b12 : List DecL) (b13 : Int) (b14 : List TagL) (b15 : Int) (b2 : Nat × List DecL) (k1 k2 : Nat) :
    F.zl.L3 n
          (fun e4_4 e4_b0_0 e4_b0_1 e4_b0_2 e4_b0_3 e4_b0_4 e4_b0_5 e4_b1_0 e4_b1_1 e4_b1_2 e4_b1_3 e4_b1_4 e4_b1_5 e4_b2_0 e4_b3_0 e4_k0 e4_k1 =>
            bif Nat.beq e4_4.1 e4_b3_0.1 then
              (F.zo n (e4_b0_0,e4_b0_1,e4_b3_0.2,e4_b0_3,e4_b0_4,e4_b0_5,())).bind fun y5 =>
                bif !(y5 == (0 : Int)) then
                  some ((([],(0 : Int),[],(0 : Int),[],(0 : Int),()),y5,()))
                else
                  (F.zu n e4_b0_4).bind fun y6 =>
                    some (((e4_b0_0,e4_b0_1,e4_b3_0.2,e4_b0_3,y6,e4_b0_5,()),(0 : Int),()))
            else
              none) n (v,m.2.2.1.length) (v,m.2.2.1.length) (m.2.2.1.length : Int) (0 : Int) m.1 m.2.1 m.2.2.1 m.2.2.2.1 m.2.2.2.2.1 m.2.2.2.2.2.1 b10 b11 b12 b13 b14 b15 b2 (v,m.2.2.1) k1 k2 = some (normM m):=by
  refine (zq5 n hn _ _ m.1 m.2.1 m.2.2.1 m.2.2.2.1 m.2.2.2.2.1 m.2.2.2.2.2.1 b10 b11 b12 b13 b14 b15 b2 k1 k2 v m.2.2.1.length (by have:=hm.2.1.1; omega) m.2.2.1 [] 0 n (by omega) rfl (by have:=hm.2.1.1; omega) hm.2.1.2).trans ?_
  dsimp only
  rw [Nat.beq_refl,cond_true]
  have hc : F.zo n (m.1,m.2.1,[] ++ m.2.2.1.map normV,m.2.2.2.1,m.2.2.2.2.1,m.2.2.2.2.2.1,()) = some (chkM (valsM m)):=zbb n hn (valsM m) (zlf hm)
  rw [hc,za]
  unfold normM
  by_cases h : chkM (valsM m) = 0
  · rw [if_pos h,h,zlc n hn _ (by have:=hm.2.2.1; omega)]
    rfl
  · rw [if_neg h,beq_eq_false_iff_ne.2 h]
    rfl
theorem zce (n : Nat) (hn : 200000 ≤ n) (m : MetD) (hm : MetOK m) : F.zl n m = some (normM m):=by
  have hl:=hm.2.1.1
  have e1 : (decide ((0 + m.2.2.1.length) * 24 ≤ 2 ^ 46) && decide (0 < 24 ∧ 24 ≤ 2 ^ 20)) = true:=by
    rw [decide_eq_true (by omega)]; rfl
  unfold F.zl
  rw [e1,cond_true]
  have h2:=zlh n hn m hm 2 [] 0 [] 0 [] 0 (1,[]) 0 0
  cases hv : m.2.2.1 with
  | nil =>
    have h1:=zlh n hn m hm 1 [] 0 [] 0 [] 0 (1,[]) 0 0
    rw [hv] at h1 h2
    refine Eq.trans (b:=both (some (normM m)) (some (normM m))) ?_ (zhw _)
    rw [List.isEmpty_nil,cond_true]
    exact congr (congrArg both h1) h2
  | cons d vs =>
    rw [hv] at h2
    exact h2
theorem zg7 {X : Type} {v : List DecL} (h : v.length ≤ 100000) (y : Option X) : (bif decide ((v.length + 1) * 24 ≤ 2 ^ 46) && decide (0 < 24 ∧ 24 ≤ 2 ^ 20) then y else none) = y:=by
  rw [decide_eq_true (by omega)]; rfl
theorem zq6 (n : Nat) (hn : 200000 ≤ n) (X : Type) (k0 : Bool→List DecL→List UInt8→Int→List DecL→Int→List TagL→Int→List UInt8→Int→List DecL→Int→List TagL→Int→Nat→Nat→Nat→Option X)
    (b00 : List UInt8) (b01 : Int) (b02 : List DecL) (hl : b02.length ≤ 10000) (b03 : Int) (b04 : List TagL) (b05 : Int) (b10 : List UInt8) (b11 : Int) (b12 : List DecL) (b13 : Int) (b14 : List TagL) (b15 : Int) (k1 k2 : Nat) :
    ∀ (r : List DecL) (ok : Bool) (acc : List DecL) (i m : Nat),b02.drop i = r→acc.length = i→i ≤ b02.length→r.length < m→(∀ d ∈ r,DecLOK d) →
    F.z7.L4 n k0 m ok acc (i : Int) b00 b01 b02 b03 b04 b05 b10 b11 b12 b13 b14 b15 acc.length k1 k2 = k0 (ok && r.all valOK) (acc ++ r.map refV) b00 b01 b02 b03 b04 b05 b10 b11 b12 b13 b14 b15 (acc ++ r.map refV).length k1 k2:=by
  intro r
  induction r with
  | nil =>
    intro ok acc i m h1 h2 hi hm hok
    obtain ⟨m,rfl⟩ : ∃ q,m = q + 1:=⟨m - 1,by omega⟩
    rw [F.z7.L4]
    unfold F.z7.L4.step
    dsimp only
    rw [ze (by have:=zj h1; omega)]
    simp
  | cons x r ih =>
    intro ok acc i m h1 h2 hi hm hok
    obtain ⟨m,rfl⟩ : ∃ q,m = q + 1:=⟨m - 1,by simp at hm; omega⟩
    obtain ⟨l1,g1,t1⟩:=zi h1
    simp only [List.length_cons] at hm
    have hx:=hok x (by simp)
    have hih:=fun ok' => ih ok' (acc ++ [refV x]) (i + 1) m t1 (by simp; omega) (by omega) (by omega) (fun d hd => hok d (List.mem_cons_of_mem _ hd))
    rw [F.z7.L4]
    unfold F.z7.L4.step
    dsimp only
    rw [zd (by omega),zk,g1,za,zt8 n hn hx,za,zh (by omega),List.all_cons,List.map_cons,Nat.beq_refl]
    rw [zg7 (by omega),zg7 (by omega),cond_true,cond_true]
    have e : ∀ k : List DecL,acc ++ [refV x] ++ k = acc ++ refV x :: k:=fun k => by simp
    cases ok
    · rw [cond_false]
      have:=hih false
      rw [e] at this
      refine this.trans ?_
      rw [Bool.false_and,Bool.false_and]
    · rw [cond_true]
      have:=hih (valOK x)
      rw [e] at this
      refine this.trans ?_
      rw [Bool.true_and]
theorem zje (n : Nat) (hn : 200000 ≤ n) (m : MetD) (hm : MetOK m) : F.z7 n m = some (normM m):=by
  unfold F.z7
  refine (zq6 n hn _ _ m.1 m.2.1 m.2.2.1 (by have:=hm.2.1.1; omega) m.2.2.2.1 m.2.2.2.2.1 m.2.2.2.2.2.1 [] 0 [] 0 [] 0 0 0 m.2.2.1 true [] 0 n rfl rfl (by omega) (by have:=hm.2.1.1; omega) hm.2.1.2).trans ?_
  rw [Bool.true_and,List.nil_append]
  have hc : F.zw n (m.1,m.2.1,m.2.2.1,m.2.2.2.1,m.2.2.2.2.1,m.2.2.2.2.2.1,()) (m.2.2.1.all valOK) = some (restM m (m.2.2.1.all valOK)):=zk6 n hn m hm.1 hm.2.2.1 hm.2.2.2 _
  rw [hc,za]
  unfold normM
  rw [zlg m hm.2.1.2]
  by_cases h : restM m (m.2.2.1.all valOK) = 0
  · rw [if_pos h,h,zle n hn _ (by have:=hm.2.2.1; omega) hm.2.2.2,za]
    have ha : m.2.2.1.all valOK = true:=by
      rw [← zlg m hm.2.1.2] at h
      have:=(zax h).2.2.1
      unfold valsB valsM at this
      simp only [Bool.and_eq_true] at this
      rw [← ziy hm.2.1.2]
      exact this.2.2
    have he : m.2.2.1.map refV = m.2.2.1.map normV:=by
      apply List.map_congr_left
      intro d hd
      exact (zcq (List.all_eq_true.1 ha d hd)).1.symm
    rw [he]
    rfl
  · rw [if_neg h,beq_eq_false_iff_ne.2 h]
    rfl
end Go.AM
set_option linter.unusedVariables false
set_option linter.unusedSimpArgs false
namespace Go.AM
theorem zjf (n : Nat) : ∀ (m u : Nat),u < 18446744073709551616→Lib.nDigits u ≤ m→F.zae.go n m (u : Int) = some (Lib.decDigits u):=by
  intro m
  induction m with
  | zero =>
    intro u _ h
    have:=Lib.nDigits_pos u
    omega
  | succ m ih =>
    intro u hu h
    have one : ∀ d : Nat,d < 10→sub ([48,49,50,51,52,53,54,55,56,57] : List UInt8) (d : Int) ((d + 1 : Nat) : Int) = some [UInt8.ofNat (48 + d)]:=by
      intro d hd
      rw [zai _ _ _ (by omega) (by simp; omega)]
      have:=(by decide : ∀ d : Fin 10,(([48,49,50,51,52,53,54,55,56,57] : List UInt8).take (d.val + 1)).drop d.val = [UInt8.ofNat (48 + d.val)]) ⟨d,hd⟩
      rw [this]
    show (bif decide ((u : Int) < 10) then _ else _) = _
    by_cases h1 : u < 10
    · rw [zd (by omega),show IntKind.wrap .u64 ((u : Int) + 1) = ((u + 1 : Nat) : Int) from by rw [IntWalk.u64_in _ (by omega)]; omega,one u h1,za,zcd h1]
    · rw [ze (by omega)]
      have e1 : (u : Int).tdiv 10 = ((u / 10 : Nat) : Int):=rfl
      have e2 : (u : Int).tmod 10 = ((u % 10 : Nat) : Int):=rfl
      have hN:=Lib.nDigits_big h1
      rw [e1,e2,IntWalk.u64_in _ (by omega),ih (u / 10) (by omega) (by omega),za,show IntKind.wrap .u64 (((u % 10 : Nat) : Int) + 1) = ((u % 10 + 1 : Nat) : Int) from by rw [IntWalk.u64_in _ (by omega)]; omega,one (u % 10) (by omega),za,zg4 h1,zd]
      have:=Lib.nDigits_le20 (u / 10) (by omega)
      rw [zby,zl]
      simp; omega
theorem zdx (n : Nat) (hn : 20 ≤ n) (u : Nat) (hu : u < 18446744073709551616) : F.zae n (u : Int) = some (Lib.decDigits u):=by
  unfold F.zae
  exact zjf n n u hu (Nat.le_trans (Lib.nDigits_le20 u hu) hn)
end Go.AM
set_option linter.unusedVariables false
set_option linter.unusedSimpArgs false
namespace Go.AM
def numText (k : Int) : List UInt8 × Int × Unit:=if k < 0 then ([],10,()) else (Lib.decDigits k.toNat,0,())
theorem zli (n : Nat) (k : Int) (h : -9223372036854775808 ≤ k ∧ k ≤ 9223372036854775807) : F.zbz n k = some (numText k):=by
  unfold F.zbz numText
  by_cases h0 : k < 0
  · rw [zd h0,if_pos h0]
  · rw [ze h0,if_neg h0]
    unfold O.itoa
    have : (decide (-9223372036854775808 ≤ k) && decide (k ≤ 9223372036854775807)) = true:=by simp [h]
    rw [this,cond_true,za]
    unfold Lib.itoa
    rw [if_neg h0]
end Go.AM
set_option linter.unusedVariables false
set_option linter.unusedSimpArgs false
namespace Go.AM
def pad6 (k : Nat) : List UInt8:=(Lib.decDigits (1000000 + k)).drop 1
theorem zdy {k : Nat} (h : k < 1000000) : Lib.decDigits (1000000 + k) = 49 :: pad6 k ∧ (pad6 k).length = 6 ∧ Digs (pad6 k) ∧ val (pad6 k) = k:=by
  have hN : (Lib.decDigits (1000000 + k)).length = 7:=by rw [zby]; exact Lib.nDigits_unique 6 _ (by omega) (by omega)
  have hd:=zbh (1000000 + k)
  have hv:=zc9 (1000000 + k)
  unfold pad6
  cases e : Lib.decDigits (1000000 + k) with
  | nil => rw [e] at hN; simp at hN
  | cons b r =>
    rw [e] at hN hd hv
    have hr : r.length = 6:=by simpa using hN
    obtain ⟨d1,d2⟩:=zae.1 hd
    have:=zc7 d2
    rw [hr] at this
    rw [zaf,hr] at hv
    have hb : dv b = 1:=by omega
    have : b = 49:=zex d1 rfl hb
    subst this
    refine ⟨rfl,hr,d2,?_⟩
    show val r = k
    omega
def rateText (k : Int) : List UInt8 × Int × Unit:=
  if k < 1 ∨ k > 1000000 then ([],10,()) else if k = 1000000 then ([49],0,()) else ([48,46] ++ trz (pad6 k.toNat),0,())
theorem ze3 (n : Nat) (k : Int) : F.zbc n k = some (rateText k):=by
  unfold F.zbc rateText
  by_cases h1 : k < 1
  · rw [zd h1,if_pos (Or.inl h1)]
  rw [ze h1]
  by_cases h2 : k > 1000000
  · rw [zd h2,if_pos (Or.inr h2)]
  rw [ze h2,if_neg (by omega)]
  by_cases h3 : k = 1000000
  · subst h3; rfl
  have e3 : (k == 1000000) = false:=by simpa using h3
  rw [e3,cond_false,if_neg h3,zq (by omega)]
  obtain ⟨p1,p2,p3,p4⟩:=zdy (k:=k.toNat) (by omega)
  have hi : O.itoa n (1000000 + k) = some (49 :: pad6 k.toNat):=by
    unfold O.itoa
    have : (decide (-9223372036854775808 ≤ 1000000 + k) && decide (1000000 + k ≤ 9223372036854775807)) = true:=by simp; omega
    rw [this,cond_true]
    unfold Lib.itoa
    rw [if_neg (by omega),show (1000000 + k).toNat = 1000000 + k.toNat from by omega,p1]
  rw [hi,za]
  have hsub : sub (49 :: pad6 k.toNat) 1 (((49 :: pad6 k.toNat).length : Nat) : Int) = some (pad6 k.toNat):=by
    have:=zai (49 :: pad6 k.toNat) 1 (49 :: pad6 k.toNat).length (by simp) (by simp)
    rw [List.take_length] at this
    exact this
  rw [hsub,za]
  unfold O.trimR
  have hb : (Nat.blt (48 : UInt8).toNat 128 && Nat.ble (pad6 k.toNat).length big47) = true:=by rw [p2]; rfl
  simp only [hb,cond_true,za,zqi]
  rw [zd]
  have:=zez (pad6 k.toNat)
  rw [zl]
  omega
theorem zq7 (n : Nat) (X : Type) (k0 : List UInt8→Option X) : ∀ (j m : Nat) (v : List UInt8),v.length + j = 6→j < m→F.zf.L4 n k0 m v = k0 (List.replicate j 48 ++ v):=by
  intro j
  induction j with
  | zero =>
    intro m v h hm
    cases m with
    | zero => omega
    | succ m =>
      show F.zf.L4.step n _ k0 v = _
      unfold F.zf.L4.step
      rw [ze (by omega)]; rfl
  | succ j ih =>
    intro m v h hm
    cases m with
    | zero => omega
    | succ m =>
      show F.zf.L4.step n (F.zf.L4 n k0 m) k0 v = _
      unfold F.zf.L4.step
      rw [zd (by omega),zd (by rw [zl]; omega),ih m _ (by simp; omega) (by omega),List.replicate_succ',List.append_assoc]
theorem zoo (n : Nat) (X : Type) (k2 : List UInt8→Option X) (a : List UInt8) (ha : a ≠ []) (hl : ∀ x,a.getLast? = some x→x ≠ 48) (hal : a.length < 1000) : ∀ (j m : Nat),j < m→j < 1000→F.zf.L6 n k2 m (a ++ List.replicate j 48) = k2 a:=by
  intro j
  induction j with
  | zero =>
    intro m hm hj
    cases m with
    | zero => omega
    | succ m =>
      show F.zf.L6.step n _ k2 _ = _
      unfold F.zf.L6.step
      rw [List.replicate_zero,List.append_nil]
      have hp : 0 < a.length:=List.length_pos_iff.2 ha
      rw [zq (by omega),zdq hp]
      have hg : a[a.length - 1]? = a.getLast?:=by rw [List.getLast?_eq_getElem?]
      rw [hg]
      cases e : a.getLast? with
      | none => simp at e; exact absurd e ha
      | some x =>
        have hx:=hl x e
        have e2 : ((x.toNat : Int) == 48) = false:=by
          have : ¬ (x.toNat : Int) = 48:=fun h => hx (zc6 (by simp; omega))
          simpa using this
        rw [za,e2,cond_false]
  | succ j ih =>
    intro m hm hj
    cases m with
    | zero => omega
    | succ m =>
      show F.zf.L6.step n (F.zf.L6 n k2 m) k2 _ = _
      unfold F.zf.L6.step
      rw [List.replicate_succ',← List.append_assoc]
      have hlen : (a ++ List.replicate j (48 : UInt8) ++ [48]).length = a.length + j + 1:=by simp; omega
      rw [zq (by omega),zdq (by omega)]
      have hg : (a ++ List.replicate j (48 : UInt8) ++ [48])[(a ++ List.replicate j (48 : UInt8) ++ [48]).length - 1]? = some 48:=by
        rw [← List.getLast?_eq_getElem?]; simp
      rw [hg,za]
      have e2 : ((((48 : UInt8).toNat : Nat) : Int) == 48) = true:=rfl
      rw [e2,cond_true]
      have hs : sub (a ++ List.replicate j (48 : UInt8) ++ [48]) 0 (((a ++ List.replicate j (48 : UInt8) ++ [48]).length : Int) - 1) = some (a ++ List.replicate j 48):=by
        have:=zai (a ++ List.replicate j (48 : UInt8) ++ [48]) 0 (a.length + j) (by omega) (by rw [hlen]; omega)
        rw [hlen,show (((a.length + j + 1 : Nat) : Int) - 1) = ((a.length + j : Nat) : Int) from by omega]
        refine this.trans ?_
        rw [List.drop_zero,List.take_append_of_le_length (by simp),List.take_of_length_le (by simp)]
      rw [hs,za]
      exact ih m (by omega) (by omega)
theorem ze4 (n : Nat) (hn : 100 ≤ n) (k : Int) (h : 1 ≤ k ∧ k ≤ 1000000) : F.zf n k = some (rateText k).1:=by
  unfold F.zf rateText
  rw [if_neg (by omega)]
  by_cases h3 : k = 1000000
  · subst h3; rfl
  have e3 : (k == 1000000) = false:=by simpa using h3
  rw [e3,cond_false,if_neg h3]
  obtain ⟨u,rfl⟩ : ∃ u : Nat,k = u:=⟨k.toNat,by omega⟩
  rw [IntWalk.u64_in _ (by omega),zdx n (by omega) u (by omega),za]
  have hl : (Lib.decDigits u).length ≤ 6:=zey (by omega) (by omega)
  obtain ⟨p1,p2,p3,p4⟩:=zdy (k:=u) (by omega)
  have hpad : List.replicate (6 - (Lib.decDigits u).length) 48 ++ Lib.decDigits u = pad6 u:=
    znd (zao.2 ⟨zga _,zbh u⟩) p3 (by simp; omega) (by rw [zc8,zc9,p4])
  rw [zq7 n _ _ (6 - (Lib.decDigits u).length) n _ (by omega) (by omega),hpad]
  have ht:=zez (pad6 u)
  have hne : trz (pad6 u) ≠ []:=fun hh => by have:=(zhq p3).1 hh; omega
  conv => lhs; rw [zfh (pad6 u)]
  rw [zoo n _ _ (trz (pad6 u)) hne (fun x => zgc) (by omega) _ n (by omega) (by omega),zd (by rw [zl]; omega)]
  simp
end Go.AM
set_option linter.unusedVariables false
set_option linter.unusedSimpArgs false
namespace Go.AM
theorem zd9 {k : Int} (hk : 1 ≤ k ∧ k < 1000000) : rateText k = (48 :: 46 :: trz (pad6 k.toNat),0,()):=by
  unfold rateText
  rw [if_neg (by omega),if_neg (by omega)]; rfl
end Go.AM
set_option linter.unusedVariables false
set_option linter.unusedSimpArgs false
namespace Go.AM
def TagS (t : TagL) : Prop:=t.1.length ≤ 1000 ∧ t.2.length ≤ 1000
theorem zba {c : Int} {s : List UInt8} {lo hi : Int} (h : (textF c s lo hi).1 = 0) : lo ≤ (s.length : Int) ∧ (s.length : Int) ≤ hi ∧ s.all (cls c) = true:=by
  unfold textF at h
  split at h
  · cases h
  · split at h
    · cases h
    · split at h
      · cases h
      · split at h
        · cases h
        · rename_i h1 h2 h3 h4
          exact ⟨by omega,by omega,Classical.byContradiction fun hh => h4 ((zda _ _ _).2 hh)⟩
theorem zg8 {t : TagL} (h : tagGood t = true) : TagS t:=by
  unfold tagGood at h
  simp only [Bool.and_eq_true,beq_iff_eq] at h
  have h1:=zba h.1
  have h2:=zba h.2
  exact ⟨by omega,by omega⟩
theorem growS {X : Type} {a b : Nat} (h : a + b ≤ 1000000) (y : Option X) : (bif decide (a + b ≤ strMax) then y else none) = y:=by
  rw [decide_eq_true (by rw [zl]; omega)]; rfl
theorem growB {X : Type} {a b : Nat} (h : a + b ≤ 1000000) (y : Option X) : (bif decide ((a + b) * 1 ≤ 2 ^ 46) && decide (0 < 1 ∧ 1 ≤ 2 ^ 20) then y else none) = y:=by
  rw [decide_eq_true (by omega)]; rfl
theorem growL {X : Type} {a : Nat} (h : a ≤ 1000000) (y : Option X) : (bif decide ((a + 1) * 16 ≤ 2 ^ 46) && decide (0 < 16 ∧ 16 ≤ 2 ^ 20) then y else none) = y:=by
  rw [decide_eq_true (by omega)]; rfl
def wordT (k : Int) : List UInt8:=if k = 1 then [99] else if k = 2 then [103] else if k = 3 then [109,115] else if k = 4 then [104] else if k = 5 then [100] else []
theorem zq8 {k : Int} (h : kindB k = true) : k = 1 ∨ k = 2 ∨ k = 3 ∨ k = 4 ∨ k = 5:=by
  unfold kindB at h
  simp only [Bool.and_eq_true,decide_eq_true_eq] at h
  omega
theorem zxc (n : Nat) (k : Int) : F.zcc n k = some (if kindB k then (wordT k,0,()) else ([],16,())):=by
  unfold F.zcc
  by_cases h1 : k < 1
  · have : kindB k = false:=by unfold kindB; rw [decide_eq_false (by omega)]; rfl
    rw [zd h1,this]; rfl
  · rw [ze h1]
    by_cases h2 : k > 5
    · have : kindB k = false:=by unfold kindB; rw [decide_eq_false (by omega : ¬ k ≤ 5),Bool.and_false]
      rw [zd h2,this]; rfl
    · have hk : k = 1 ∨ k = 2 ∨ k = 3 ∨ k = 4 ∨ k = 5:=by omega
      rw [ze h2]
      rcases hk with rfl | rfl | rfl | rfl | rfl <;> rfl
theorem zdz (k : Int) : (wordT k).length ≤ 2:=by
  unfold wordT; repeat' split
  all_goals decide
def textL (d : DecL) : List UInt8:=textD d.1 d.2.1.toNat d.2.2
def valsT (vs : List DecL) : List UInt8:=(vs.map fun d => 58 :: textL d).flatten
def oneT (t : TagL) : List UInt8:=if t.2 = [] then t.1 else t.1 ++ ([58] ++ t.2)
def tagText (ts : List TagL) : List UInt8:=Lib.join (ts.map oneT) [44]
def rateP (r : Int) : List UInt8:=if r = 1000000 then [] else [124,64] ++ (rateText r).1
def tagsP (ts : List TagL) : List UInt8:=if ts = [] then [] else [124,35] ++ tagText ts
def timeP (t : Int) : List UInt8:=if t = 0 then [] else [124,84] ++ Lib.decDigits t.toNat
def lineD (m : MetD) : List UInt8:=m.1 ++ valsT m.2.2.1 ++ ([124] ++ wordT m.2.1) ++ rateP m.2.2.2.1 ++ tagsP m.2.2.2.2.1 ++ timeP m.2.2.2.2.2.1
theorem zgg {vs : List DecL} (h : ∀ d ∈ vs,DecLOK d ∧ decC d = 0) : (valsT vs).length ≤ 40 * vs.length:=by
  induction vs with
  | nil => simp [valsT]
  | cons d vs ih =>
    have:=zay (h d (by simp)).1 (h d (by simp)).2
    have h2:=ih (fun x hx => h x (List.mem_cons_of_mem _ hx))
    have e : (valsT (d :: vs)).length = (textL d).length + 1 + (valsT vs).length:=by simp [valsT]; omega
    have e2 : (textL d).length ≤ 39:=this
    simp only [List.length_cons]
    omega
theorem zhs {t : TagL} (h : TagS t) : (oneT t).length ≤ 2001:=by
  unfold oneT
  have:=h.1; have:=h.2
  split <;> simp <;> omega
theorem znn (sep : List UInt8) (b : Nat) : ∀ l : List (List UInt8),(∀ x ∈ l,x.length ≤ b)→(Lib.join l sep).length ≤ l.length * (b + sep.length):=by
  intro l h
  cases l with
  | nil => simp [Lib.join]
  | cons x l =>
    rw [Lib.join_cons]
    have : ∀ l : List (List UInt8),(∀ x ∈ l,x.length ≤ b)→(Lib.joinTail sep l).length ≤ l.length * (b + sep.length):=by
      intro l
      induction l with
      | nil => intro _; simp [Lib.joinTail]
      | cons y l ih =>
        intro h
        have h1:=ih (fun x hx => h x (List.mem_cons_of_mem _ hx))
        have h2:=h y (by simp)
        have : Lib.joinTail sep (y :: l) = sep ++ y ++ Lib.joinTail sep l:=by simp [Lib.joinTail]
        rw [this,List.length_append,List.length_append,List.length_cons,Nat.add_mul]
        omega
    have h1:=this l (fun x hx => h x (List.mem_cons_of_mem _ hx))
    have h2:=h x (by simp)
    rw [List.length_append,List.length_cons,Nat.add_mul]
    omega
theorem zd0 {ts : List TagL} (h : ∀ t ∈ ts,TagS t) (hl : ts.length ≤ 32) : (tagText ts).length ≤ 70000:=by
  unfold tagText
  have:=znn [44] 2001 (ts.map oneT) (fun x hx => by
    obtain ⟨t,ht,rfl⟩:=List.mem_map.1 hx
    exact zhs (h t ht))
  rw [List.length_map] at this
  have h2 : ts.length * (2001 + [(44 : UInt8)].length) ≤ 32 * 2002:=Nat.mul_le_mul_right _ hl
  omega
theorem zlj (n : Nat) (hn : 200000 ≤ n) (X : Type) (k0 : List (List UInt8)→Nat→Option X) (kr : List UInt8→Int→Int→Option X) (ts : List TagL) (hl : ts.length ≤ 1000) (hok : ∀ t ∈ ts,TagS t ∧ tagGood t = true) : ∀ (r : List TagL) (acc : List (List UInt8)) (i m : Nat),ts.drop i = r→acc.length ≤ i→i ≤ ts.length→r.length < m →
    F.zay.L3 n k0 kr m acc ts (ts.length : Int) (i : Int) acc.length = k0 (acc ++ r.map oneT) (acc ++ r.map oneT).length:=by
  intro r
  induction r with
  | nil =>
    intro acc i m h1 h2 hi hm
    obtain ⟨m,rfl⟩ : ∃ q,m = q + 1:=⟨m - 1,by omega⟩
    rw [F.zay.L3]
    unfold F.zay.L3.step
    dsimp only
    rw [ze (by have:=zj h1; omega)]
    simp
  | cons t r ih =>
    intro acc i m h1 h2 hi hm
    obtain ⟨m,rfl⟩ : ∃ q,m = q + 1:=⟨m - 1,by simp at hm; omega⟩
    obtain ⟨l1,g1,t1⟩:=zi h1
    simp only [List.length_cons] at hm
    obtain ⟨ht,hg⟩:=hok t (List.mem_of_getElem? g1)
    have a1:=ht.1
    have a2:=ht.2
    have hih:=ih (acc ++ [oneT t]) (i + 1) m t1 (by simp; omega) (by omega) (by omega)
    have e : acc ++ [oneT t] ++ r.map oneT = acc ++ (t :: r).map oneT:=by simp
    rw [e] at hih
    rw [F.zay.L3]
    unfold F.zay.L3.step
    dsimp only
    rw [zd (by omega),zk,g1,za,znj n hn ⟨by omega,by omega⟩,za,hg,cond_true]
    rw [zh (by omega),Nat.beq_refl,growL (by omega),growL (by omega)]
    simp only [beq_self_eq_true,Bool.not_true,cond_false,cond_true]
    by_cases h0 : t.2 = []
    · rw [h0,beq_self_eq_true,Bool.not_true,cond_false]
      have e1 : oneT t = t.1:=by unfold oneT; rw [if_pos h0]
      rw [e1] at hih
      exact hih
    · rw [beq_eq_false_iff_ne.2 h0,Bool.not_false,cond_true,growS (by omega),growS (by simp only [List.length_append,List.length_cons,List.length_nil]; omega)]
      have e1 : oneT t = t.1 ++ ([58] ++ t.2):=by unfold oneT; rw [if_neg h0]
      rw [e1] at hih
      exact hih
theorem zop (n : Nat) (hn : 200000 ≤ n) (ts : List TagL) (hl : ts.length ≤ 32) (hok : ∀ t ∈ ts,TagS t ∧ tagGood t = true) : F.zay n ts = some (tagText ts,0,0,()):=by
  unfold F.zay
  refine (zlj n hn _ _ _ ts (by omega) hok ts [] 0 n rfl (by simp) (by omega) (by omega)).trans ?_
  have e1 : O.join n (ts.map oneT) [44] = some (tagText ts):=by
    unfold O.join
    have h2:=zd0 (fun t ht => (hok t ht).1) hl
    unfold tagText at h2
    have : (Nat.ble (ts.map oneT).length big47 && Nat.ble (Lib.join (ts.map oneT) [44]).length big47) = true:=by
      simp only [Bool.and_eq_true,nble,big47,List.length_map]
      omega
    rw [this,cond_true]; rfl
  show (O.join n (ts.map oneT) [44]).bind _ = _
  rw [e1]; rfl
theorem zno (n : Nat) {t : TagL} (h : TagS t) : F.zb5 n (t.1,t.2,()) = some (oneT t):=by
  unfold F.zb5 oneT
  have a1:=h.1
  have a2:=h.2
  dsimp only
  by_cases h0 : t.2 = []
  · rw [h0,beq_self_eq_true,cond_true,if_pos rfl]
  · rw [beq_eq_false_iff_ne.2 h0,cond_false,growS (by omega),growS (by simp only [List.length_append,List.length_cons,List.length_nil]; omega),if_neg h0]
    simp
theorem zlk (n : Nat) (X : Type) (k0 : List UInt8→Option X) (ts : List TagL) (hl : ts.length ≤ 32) (hok : ∀ t ∈ ts,TagS t) : ∀ (r : List TagL) (acc : List UInt8) (i m : Nat),ts.drop i = r→0 < i→acc.length ≤ i * 3000→i ≤ ts.length→r.length < m →
    F.z6.L3 n k0 m ts acc (i : Int) = k0 (acc ++ Lib.joinTail [44] (r.map oneT)):=by
  intro r
  induction r with
  | nil =>
    intro acc i m h1 h0 h2 hi hm
    obtain ⟨m,rfl⟩ : ∃ q,m = q + 1:=⟨m - 1,by omega⟩
    rw [F.z6.L3]
    unfold F.z6.L3.step
    dsimp only
    rw [ze (by have:=zj h1; omega)]
    simp [Lib.joinTail]
  | cons t r ih =>
    intro acc i m h1 h0 h2 hi hm
    obtain ⟨m,rfl⟩ : ∃ q,m = q + 1:=⟨m - 1,by simp at hm; omega⟩
    obtain ⟨l1,g1,t1⟩:=zi h1
    simp only [List.length_cons] at hm
    have ht:=hok t (List.mem_of_getElem? g1)
    have hlen:=zhs ht
    rw [F.z6.L3]
    unfold F.z6.L3.step
    dsimp only
    rw [zd (by omega),zd (by omega),growS (by omega),zk,g1,za,zno n ht,za,growS (by simp only [List.length_append,List.length_cons,List.length_nil]; omega),zh (by omega)]
    rw [ih (acc ++ [44] ++ oneT t) (i + 1) m t1 (by omega) (by simp only [List.length_append,List.length_cons,List.length_nil]; omega) (by omega) (by omega)]
    simp [Lib.joinTail]
theorem zoq (n : Nat) (hn : 200000 ≤ n) (ts : List TagL) (hl : ts.length ≤ 32) (hok : ∀ t ∈ ts,TagS t) : F.z6 n ts = some (tagText ts):=by
  unfold F.z6
  cases ts with
  | nil =>
    obtain ⟨m,rfl⟩ : ∃ q,n = q + 1:=⟨n - 1,by omega⟩
    rfl
  | cons t r =>
    obtain ⟨m,hm⟩ : ∃ q,n = q + 1:=⟨n - 1,by omega⟩
    have ht:=hok t (by simp)
    have hlen:=zhs ht
    have h1 : ∀ k0 : List UInt8→Option (List UInt8),F.z6.L3 n k0 (m + 1) (t :: r) [] (0 : Int) = k0 (tagText (t :: r)):=by
      intro k0
      rw [F.z6.L3]
      unfold F.z6.L3.step
      dsimp only
      rw [zd (by simp),ze (by omega),show (0 : Int) = ((0 : Nat) : Int) from rfl,zk,List.getElem?_cons_zero,za,zno n ht,za,growS (by simp only [List.length_nil]; omega),zh (by omega)]
      rw [zlk n _ k0 (t :: r) hl hok r ([] ++ oneT t) 1 m rfl (by omega) (by simp only [List.length_append,List.length_nil]; omega) (by simp) (by simp at hl; omega)]
      unfold tagText
      rw [List.map_cons,Lib.join_cons,List.nil_append]
    rw [hm] at h1 ⊢
    exact h1 _
end Go.AM
set_option linter.unusedVariables false
set_option linter.unusedSimpArgs false
namespace Go.AM
theorem zgh {k r : Int} (h : rateB k r = true) : (rateP r).length ≤ 20 ∧ (rateText r).2.1 = 0 ∧ 1 ≤ r ∧ r ≤ 1000000:=by
  have hr : 1 ≤ r ∧ r ≤ 1000000:=by
    unfold rateB at h
    simp only [Bool.and_eq_true,decide_eq_true_eq] at h
    exact ⟨h.1,h.2.1⟩
  by_cases e : r = 1000000
  · subst e; exact ⟨by decide,by decide,by omega,by omega⟩
  · have hf:=zd9 (k:=r) ⟨hr.1,by omega⟩
    have h6:=(zdy (k:=r.toNat) (by omega)).2.1
    have ht:=zez (pad6 r.toNat)
    unfold rateP
    rw [if_neg e,hf]
    refine ⟨?_,rfl,hr⟩
    simp only [List.length_append,List.length_cons,List.length_nil]
    omega
theorem zgi {t : Int} (h : timeB t = true) : (timeP t).length ≤ 24 ∧ 0 ≤ t ∧ t ≤ 1099511627776:=by
  have hr : 0 ≤ t ∧ t ≤ 1099511627776:=by
    unfold timeB at h
    simpa only [Bool.and_eq_true,decide_eq_true_eq] using h
  refine ⟨?_,hr⟩
  have:=zav (c:=t.toNat) (by rw [z8]; omega)
  unfold timeP
  split
  · simp
  · simp only [List.length_append,List.length_cons,List.length_nil]; omega
theorem zll (n : Nat) (hn : 200000 ≤ n) (X : Type) (k0 : List UInt8→List UInt8→Int→List DecL→Int→List TagL→Int→Option X) (b0 : List UInt8) (b1 : Int) (vs : List DecL) (b3 : Int) (b4 : List TagL) (b5 : Int) (hl : vs.length ≤ 100) (hok : ∀ d ∈ vs,DecLOK d ∧ decC d = 0) : ∀ (r : List DecL) (acc : List UInt8) (i m : Nat),vs.drop i = r→acc.length ≤ 1000 + i * 40→i ≤ vs.length→r.length < m →
    F.zak.L3 n k0 m acc (i : Int) b0 b1 vs b3 b4 b5 = k0 (acc ++ valsT r) b0 b1 vs b3 b4 b5:=by
  intro r
  induction r with
  | nil =>
    intro acc i m h1 h2 hi hm
    obtain ⟨m,rfl⟩ : ∃ q,m = q + 1:=⟨m - 1,by omega⟩
    rw [F.zak.L3]
    unfold F.zak.L3.step
    dsimp only
    rw [ze (by have:=zj h1; omega)]
    simp [valsT]
  | cons d r ih =>
    intro acc i m h1 h2 hi hm
    obtain ⟨m,rfl⟩ : ∃ q,m = q + 1:=⟨m - 1,by simp at hm; omega⟩
    obtain ⟨l1,g1,t1⟩:=zi h1
    simp only [List.length_cons] at hm
    obtain ⟨hd,h0⟩:=hok d (List.mem_of_getElem? g1)
    have hlen : (textL d).length ≤ 39:=zay hd h0
    have hT : F.zm n (d.1,d.2.1,d.2.2,()) = some (textL d):=zcx n hn hd h0
    rw [F.zak.L3]
    unfold F.zak.L3.step
    dsimp only
    rw [zd (by omega),growS (by omega),zk,g1,za,hT,za,growS (by simp only [List.length_append,List.length_cons,List.length_nil]; omega),zh (by omega)]
    rw [ih (acc ++ [58] ++ textL d) (i + 1) m t1 (by simp only [List.length_append,List.length_cons,List.length_nil]; omega) (by omega) (by omega)]
    simp [valsT]
structure RightM (m : MetD) : Prop where
  ok : MetOK m
  chk : chkM m = 0
theorem zbo {m : MetD} (h : RightM m) : (∀ d ∈ m.2.2.1,DecLOK d ∧ decC d = 0) ∧ 1 ≤ m.2.2.1.length ∧ m.2.2.1.length ≤ 64:=by
  have:=(zax h.chk).2.2.1
  unfold valsB at this
  simp only [Bool.and_eq_true,decide_eq_true_eq] at this
  refine ⟨fun d hd => ⟨h.ok.2.1.2 d hd,?_⟩,this.1,this.2.1⟩
  simpa using List.all_eq_true.1 this.2.2 d hd
theorem zd1 {m : MetD} (h : RightM m) : (∀ t ∈ m.2.2.2.2.1,TagS t ∧ tagGood t = true) ∧ m.2.2.2.2.1.length ≤ 32:=by
  have:=(zax h.chk).2.2.2.2.1
  unfold tagsB at this
  simp only [Bool.and_eq_true,decide_eq_true_eq] at this
  exact ⟨fun t ht => ⟨zg8 (List.all_eq_true.1 this.2 t ht),List.all_eq_true.1 this.2 t ht⟩,this.1⟩
theorem zbk {s : List UInt8} (h : nameOK s = true) : 1 ≤ s.length ∧ s.length ≤ 200:=by
  rw [ziv] at h
  simp only [Bool.and_eq_true,decide_eq_true_eq] at h
  exact h.2
theorem zub (n : Nat) (hn : 200000 ≤ n) (m : MetD) (h : RightM m) : F.zak n m = some (lineD m):=by
  obtain ⟨hv,hv1,hv2⟩:=zbo h
  obtain ⟨ht,ht2⟩:=zd1 h
  obtain ⟨c1,c2,c3,c4,c5,c6⟩:=zax h.chk
  have hnm:=zbk c1
  have hvl:=zgg hv
  have hk:=zq8 c2
  obtain ⟨r1,r2,r3,r4⟩:=zgh c4
  obtain ⟨t1,t2,t3⟩:=zgi c6
  have htl:=zd0 (fun t ht' => (ht t ht').1) ht2
  obtain ⟨nm,k,vs,r,ts,t,_⟩:=m
  simp only at hv hv1 hv2 ht ht2 hnm hvl hk r1 r2 r3 r4 t1 t2 t3 htl
  unfold F.zak
  refine (zll n hn _ _ nm k vs r ts t (by omega) hv vs nm 0 n rfl (by omega) (by omega) (by omega)).trans ?_
  have hw : idx [[99],[103],[109,115],[104],[100]] (IntKind.wrap .i64 (k - 1)) = some (wordT k):=by
    rcases hk with rfl | rfl | rfl | rfl | rfl <;> rfl
  have hws:=zdz k
  have hd : F.za5 n t = some (Lib.decDigits t.toNat):=by
    unfold F.za5
    have : F.zae n (IntKind.wrap .u64 t) = some (Lib.decDigits t.toNat):=by
      have e : IntKind.wrap .u64 t = ((t.toNat : Nat) : Int):=by
        rw [show IntKind.wrap .u64 t = t from IntWalk.u64_in t (by omega)]; omega
      rw [e]
      exact zdx n (by omega) t.toNat (by omega)
    rw [this]; rfl
  have hdl:=zav (c:=t.toNat) (by rw [z8]; omega)
  have hr : F.zf n r = some (rateText r).1:=ze4 n (by omega) r ⟨r3,r4⟩
  have htt : F.z6 n ts = some (tagText ts):=zoq n hn ts ht2 (fun t ht' => (ht t ht').1)
  have hrl : (rateText r).1.length ≤ 20:=by
    by_cases e : r = 1000000
    · subst e; decide
    · unfold rateP at r1; rw [if_neg e] at r1; simp only [List.length_append,List.length_cons,List.length_nil] at r1; omega
  rw [show F.zce n = some [[99],[103],[109,115],[104],[100]] from rfl]
  simp only [za,hw,hr,htt,hd]
  rw [growS (by simp only [List.length_append,List.length_cons,List.length_nil]; omega),growS (by simp only [List.length_append,List.length_cons,List.length_nil]; omega)]
  unfold lineD rateP tagsP timeP
  have lenT : decide ((ts.length : Int) > 0) = !decide (ts = []):=by cases ts <;> simp <;> omega
  have f1 : (r == (1000000 : Int)) = decide (r = 1000000):=by by_cases e : r = 1000000 <;> simp [e]
  have f3 : (t == (0 : Int)) = decide (t = 0):=by by_cases e : t = 0 <;> simp [e]
  rw [lenT,f1,f3]
  by_cases e1 : r = 1000000 <;> by_cases e2 : ts = [] <;> by_cases e3 : t = 0
  all_goals
    simp only [e1,e2,e3,Bool.not_true,Bool.not_false,cond_true,cond_false,decide_true,decide_false,if_true,if_false]
    repeat rw [growS (by simp only [List.length_append,List.length_cons,List.length_nil]; omega)]
    simp
theorem zq9 (n : Nat) (hn : 200000 ≤ n) (X : Type) (k0 : List UInt8→Int→List DecL→Int→List TagL→Int→(Nat × List UInt8)→(Nat × Nat)→Int→Option X) (b0 : List UInt8) (b1 : Int) (b2 : List DecL) (b3 : Int) (b4 : List TagL) (b5 : Int) (vs : List DecL) (hl : vs.length ≤ 100) (hok : ∀ d ∈ vs,DecLOK d ∧ decC d = 0) : ∀ (r : List DecL) (acc : List UInt8) (v i m : Nat),vs.drop i = r→acc.length ≤ 1000 + i * 40→i ≤ vs.length→r.length < m →
    ∃ v',F.zk.L9 n k0 m vs (vs.length : Int) (i : Int) b0 b1 b2 b3 b4 b5 (v,acc) (v,acc.length) 0 = k0 b0 b1 b2 b3 b4 b5 (v',acc ++ valsT r) (v',(acc ++ valsT r).length) 0:=by
  intro r
  induction r with
  | nil =>
    intro acc v i m h1 h2 hi hm
    obtain ⟨m,rfl⟩ : ∃ q,m = q + 1:=⟨m - 1,by omega⟩
    refine ⟨v,?_⟩
    rw [F.zk.L9]
    unfold F.zk.L9.step
    dsimp only
    rw [ze (by have:=zj h1; omega)]
    simp [valsT]
  | cons d r ih =>
    intro acc v i m h1 h2 hi hm
    obtain ⟨m,rfl⟩ : ∃ q,m = q + 1:=⟨m - 1,by simp at hm; omega⟩
    obtain ⟨l1,g1,t1⟩:=zi h1
    simp only [List.length_cons] at hm
    obtain ⟨hd,h0⟩:=hok d (List.mem_of_getElem? g1)
    have hlen : (textL d).length ≤ 39:=zay hd h0
    have hT : F.zbg n (d.1,d.2.1,d.2.2,()) = some (textL d,0,()):=zdw n hn hd h0
    obtain ⟨v',hv⟩:=ih (acc ++ ([58] ++ textL d)) (v + 1) (i + 1) m t1 (by simp only [List.length_append,List.length_cons,List.length_nil]; omega) (by omega) (by omega)
    refine ⟨v',?_⟩
    rw [F.zk.L9]
    unfold F.zk.L9.step
    dsimp only
    rw [zd (by omega),zk,g1,za,hT,za,zh (by omega)]
    dsimp only
    rw [beq_self_eq_true,cond_true,growS (by omega),Nat.beq_refl,cond_true,growB (by simp only [List.length_append,List.length_cons,List.length_nil]; omega)]
    rw [hv]
    simp [valsT]
theorem zra (n : Nat) (X : Type) (kr : List UInt8→Int→Option X) (b0 : List UInt8) (b1 : Int) (b2 : List DecL) (b3 : Int) (b4 : List TagL) (b5 : Int) (B : List UInt8) (v l : Nat) (hB : B ≠ []) : F.zk.C25 n kr b0 b1 b2 b3 b4 b5 (v,B) (v,l) 0 = kr B 0:=by
  unfold F.zk.C25
  dsimp only
  rw [beq_self_eq_true,Bool.not_true,cond_false,Nat.beq_refl,cond_true]
  cases B with
  | nil => exact absurd rfl hB
  | cons x B => rfl
theorem zrb (n : Nat) (X : Type) (kr : List UInt8→Int→Option X) (b0 : List UInt8) (b1 : Int) (b2 : List DecL) (b3 : Int) (b4 : List TagL) (b5 : Int) (h5 : timeB b5 = true) (B : List UInt8) (v : Nat) (hB : B ≠ []) (hl : B.length ≤ 200000) : F.zk.C22 n kr b0 b1 b2 b3 b4 b5 (v,B) (v,B.length) 0 = kr (B ++ timeP b5) 0:=by
  obtain ⟨t1,t2,t3⟩:=zgi h5
  unfold F.zk.C22 timeP
  by_cases e : b5 = 0
  · rw [e,beq_self_eq_true,Bool.not_true,cond_false,if_pos rfl,List.append_nil]
    exact zra n X _ b0 b1 b2 b3 b4 0 B v _ hB
  · have hd : F.zbz n b5 = some (Lib.decDigits b5.toNat,0,()):=by
      rw [zli n b5 (by omega)]; unfold numText; rw [if_neg (by omega)]
    have hdl:=zav (c:=b5.toNat) (by rw [z8]; omega)
    rw [beq_eq_false_iff_ne.2 e,Bool.not_false,cond_true,hd,za,if_neg e]
    dsimp only
    rw [beq_self_eq_true,cond_true,growS (by omega),Nat.beq_refl,cond_true,growB (by simp only [List.length_append,List.length_cons,List.length_nil]; omega)]
    exact zra n X _ b0 b1 b2 b3 b4 b5 _ _ _ (by simp)
theorem zrc (n : Nat) (hn : 200000 ≤ n) (X : Type) (kr : List UInt8→Int→Option X) (b0 : List UInt8) (b1 : Int) (b2 : List DecL) (b3 : Int) (b4 : List TagL) (b5 : Int) (h5 : timeB b5 = true) (hts : b4.length ≤ 32) (ht : ∀ t ∈ b4,TagS t ∧ tagGood t = true) (B : List UInt8) (v : Nat) (hB : B ≠ []) (hl : B.length ≤ 100000) : F.zk.C19 n kr b0 b1 b2 b3 b4 b5 (v,B) (v,B.length) 0 = kr (B ++ tagsP b4 ++ timeP b5) 0:=by
  have htl:=zd0 (fun t ht' => (ht t ht').1) hts
  unfold F.zk.C19 tagsP
  by_cases e : b4 = []
  · rw [e,ze (by simp),if_pos rfl,List.append_nil]
    exact zrb n X _ b0 b1 b2 b3 [] b5 h5 B v hB (by omega)
  · have hlen : 0 < b4.length:=List.length_pos_iff.2 e
    rw [zd (by omega),zop n hn b4 hts ht,za,if_neg e]
    dsimp only
    rw [beq_self_eq_true,cond_true,growS (by omega),Nat.beq_refl,cond_true,growB (by simp only [List.length_append,List.length_cons,List.length_nil]; omega)]
    exact zrb n X _ b0 b1 b2 b3 b4 b5 h5 _ _ (by simp) (by simp only [List.length_append,List.length_cons,List.length_nil]; omega)
theorem zxd (n : Nat) (hn : 200000 ≤ n) (X : Type) (kr : List UInt8→Int→Option X) (b0 : List UInt8) (b1 : Int) (b2 : List DecL) (b3 : Int) (b4 : List TagL) (b5 : Int) (k : Int) (h3 : rateB k b3 = true) (h5 : timeB b5 = true) (hts : b4.length ≤ 32) (ht : ∀ t ∈ b4,TagS t ∧ tagGood t = true) (B : List UInt8) (v : Nat) (hB : B ≠ []) (hl : B.length ≤ 50000) : F.zk.C16 n kr b0 b1 b2 b3 b4 b5 (v,B) (v,B.length) 0 = kr (B ++ rateP b3 ++ tagsP b4 ++ timeP b5) 0:=by
  obtain ⟨r1,r2,r3,r4⟩:=zgh h3
  unfold F.zk.C16
  by_cases e : b3 = 1000000
  · have : rateP b3 = []:=by unfold rateP; rw [if_pos e]
    rw [this,List.append_nil,e,beq_self_eq_true,Bool.not_true,cond_false]
    exact zrc n hn X _ b0 b1 b2 1000000 b4 b5 h5 hts ht B v hB (by omega)
  · have hP : rateP b3 = [124,64] ++ (rateText b3).1:=by unfold rateP; rw [if_neg e]
    have hrl : (rateText b3).1.length ≤ 20:=by rw [hP] at r1; simp only [List.length_append,List.length_cons,List.length_nil] at r1; omega
    rw [hP,beq_eq_false_iff_ne.2 e,Bool.not_false,cond_true,ze3,za,beq_self_eq_true,cond_true,growS (by omega)]
    dsimp only
    rw [Nat.beq_refl,cond_true,growB (by simp only [List.length_append,List.length_cons,List.length_nil]; omega),r2]
    exact zrc n hn X _ b0 b1 b2 b3 b4 b5 h5 hts ht _ _ (by simp) (by simp only [List.length_append,List.length_cons,List.length_nil]; omega)
def lineM (m : MetD) : List UInt8 × Int × Unit:=if (normM m).2.1 = 0 then (lineD (normM m).1,0,()) else ([],(normM m).2.1,())
theorem zcy {m : MetD} (hm : MetOK m) : (normM m = (formM m,0,()) ∧ RightM (formM m)) ∨ (∃ e,e ≠ 0 ∧ normM m = (zeroM,e,())):=by
  unfold normM
  by_cases h : chkM (valsM m) = 0
  · refine Or.inl ⟨if_pos h,?_,?_⟩
    · have hv:=zlf hm
      refine ⟨hm.1,hv.2.1,?_,?_⟩
      · have h1:=ze1 m.2.2.2.2.1
        have h2:=hm.2.2.1
        show (normT m.2.2.2.2.1).length ≤ 10000
        omega
      · intro t ht
        exact hm.2.2.2 t ((zcp _ _).1 ht)
    · obtain ⟨c1,c2,c3,c4,c5,c6⟩:=zax h
      have c5' : tagsB (formM m).2.2.2.2.1 = true:=by
        unfold tagsB at c5 ⊢
        simp only [Bool.and_eq_true,decide_eq_true_eq] at c5 ⊢
        have h1:=ze1 m.2.2.2.2.1
        have h2 : m.2.2.2.2.1.length ≤ 32:=c5.1
        refine ⟨?_,List.all_eq_true.2 (fun t ht => List.all_eq_true.1 c5.2 t ((zcp _ _).1 ht))⟩
        show (normT m.2.2.2.2.1).length ≤ 32
        omega
      unfold chkM
      have d1 : nameOK (formM m).1 = true:=c1
      have d2 : kindB (formM m).2.1 = true:=c2
      have d3 : valsB (formM m).2.2.1 = true:=c3
      have d4 : rateB (formM m).2.1 (formM m).2.2.2.1 = true:=c4
      have d6 : timeB (formM m).2.2.2.2.2.1 = true:=c6
      rw [d1,d2,d3,d4,c5',d6]
      rfl
  · exact Or.inr ⟨_,h,if_neg h⟩
theorem zxe (n : Nat) (hn : 200000 ≤ n) (m : MetD) (hm : MetOK m) : F.zk n m = some (lineM m):=by
  unfold F.zk lineM
  have hN : F.zl n (m.1,m.2.1,m.2.2.1,m.2.2.2.1,m.2.2.2.2.1,m.2.2.2.2.2.1,()) = some (normM m):=zce n hn m hm
  rw [hN,za]
  rcases zcy hm with ⟨h1,hR⟩ | ⟨e,he,h1⟩
  · rw [h1]
    generalize formM m = f at hR
    obtain ⟨hv,hv1,hv2⟩:=zbo hR
    obtain ⟨ht,ht2⟩:=zd1 hR
    obtain ⟨c1,c2,c3,c4,c5,c6⟩:=zax hR.chk
    have hnm:=zbk c1
    have hvl:=zgg hv
    obtain ⟨nm,k,vs,r,ts,t,_⟩:=f
    dsimp only at hv hv1 hv2 ht ht2 c1 c2 c3 c4 c5 c6 hnm hvl ⊢
    rw [beq_self_eq_true,Bool.not_true,cond_false,if_pos rfl,growS (by omega),growB (by simp only [List.length_append,List.length_nil]; omega)]
    obtain ⟨v', hloop⟩ := zq9 n hn _ (fun e4_b0_0 e4_b0_1 e4_b0_2 e4_b0_3 e4_b0_4 e4_b0_5 e4_b1_0 e4_b2_1 e4_b3_0 =>
            (F.zcc n e4_b0_1).bind fun y5 =>
              bif e4_b3_0 == (0 : Int) then
                bif decide (1 + y5.1.length ≤ strMax) then
                  bif Nat.beq e4_b2_1.1 e4_b1_0.1 then
                    bif decide ((e4_b1_0.2.length + ((([124]) ++ y5.1).length)) * 1 ≤ 2 ^ 46) && decide (0 < 1 ∧ 1 ≤ 2 ^ 20) then
                      F.zk.C16 n
                        (fun e30_2 e30_3 =>
                          some ((e30_2,e30_3,()))) e4_b0_0 e4_b0_1 e4_b0_2 e4_b0_3 e4_b0_4 e4_b0_5 (e4_b2_1.1 + 1,e4_b1_0.2 ++ (([124]) ++ y5.1)) (e4_b2_1.1 + 1,(e4_b1_0.2 ++ (([124]) ++ y5.1)).length) y5.2.1
                    else
                      none
                  else
                    none
                else
                  none
              else
              bif decide (1 + y5.1.length ≤ strMax) then
                bif Nat.beq e4_b2_1.1 e4_b1_0.1 then
                  bif decide ((e4_b1_0.2.length + ((([124]) ++ y5.1).length)) * 1 ≤ 2 ^ 46) && decide (0 < 1 ∧ 1 ≤ 2 ^ 20) then
                    F.zk.C16 n
                      (fun e31_2 e31_3 =>
                        some ((e31_2,e31_3,()))) e4_b0_0 e4_b0_1 e4_b0_2 e4_b0_3 e4_b0_4 e4_b0_5 (e4_b2_1.1 + 1,e4_b1_0.2 ++ (([124]) ++ y5.1)) (e4_b2_1.1 + 1,(e4_b1_0.2 ++ (([124]) ++ y5.1)).length) e4_b3_0
                  else
                    none
                else
                  none
              else
                none) nm k vs r ts t vs (by omega) hv vs nm 2 0 n rfl (by omega) (by omega) (by omega)
    refine hloop.trans ?_
    dsimp only
    have hws:=zdz k
    rw [zxc,c2,if_pos rfl,za]
    dsimp only
    rw [beq_self_eq_true,cond_true,growS (by omega),Nat.beq_refl,cond_true,growB (by simp only [List.length_append,List.length_cons,List.length_nil]; omega)]
    exact zxd n hn _ _ nm k vs r ts t k c4 c6 ht2 ht _ _ (by simp) (by simp only [List.length_append,List.length_cons,List.length_nil]; omega)
  · rw [h1]
    dsimp only
    rw [if_neg he,beq_eq_false_iff_ne.2 he,Bool.not_false,cond_true]
end Go.AM
set_option linter.unusedVariables false
set_option linter.unusedSimpArgs false
namespace Go.AM
end Go.AM
set_option linter.unusedVariables false
set_option linter.unusedSimpArgs false
namespace Go.AM
end Go.AM
set_option linter.unusedVariables false
set_option linter.unusedSimpArgs false
namespace Go.AM
end Go.AM
set_option linter.unusedVariables false
set_option linter.unusedSimpArgs false
namespace Go.AM
end Go.AM
set_option linter.unusedVariables false
set_option linter.unusedSimpArgs false
namespace Go.AM
end Go.AM
set_option linter.unusedVariables false
set_option linter.unusedSimpArgs false
namespace Go.AM
theorem zlm {m : MetD} (h : RightM m) (hs : StrictT m.2.2.2.2.1) : normM m = (m,0,()):=by
  have hv:=(zbo h).1
  have e1 : m.2.2.1.map normV = m.2.2.1:=by
    have : m.2.2.1.map normV = m.2.2.1.map id:=List.map_congr_left (fun d hd => (zt9 (hv d hd).1 (hv d hd).2).2)
    rw [this,List.map_id]
  have e2 : valsM m = m:=by unfold valsM; rw [e1]
  unfold normM
  rw [e2,if_pos h.chk]
  unfold formM
  rw [e1,zt2 hs]
theorem zor (n : Nat) (hn : 200000 ≤ n) {m : MetD} (h : RightM m) (hs : StrictT m.2.2.2.2.1) : F.zk n m = some (lineD m,0,()):=by
  rw [zxe n hn m h.ok]
  unfold lineM
  rw [zlm h hs,if_pos rfl]
end Go.AM
set_option linter.unusedVariables false
set_option linter.unusedSimpArgs false
namespace Go.AM
end Go.AM
set_option linter.unusedVariables false
set_option linter.unusedSimpArgs false
namespace Go.AM
end Go.AM
set_option linter.unusedVariables false
set_option linter.unusedSimpArgs false
namespace Go.AM
theorem zxf {t : TagL} (h : TagS t) : TagLOK t:=⟨by have:=h.1; omega,by have:=h.2; omega⟩
end Go.AM
set_option linter.unusedVariables false
set_option linter.unusedSimpArgs false
namespace Go.AM
end Go.AM
set_option linter.unusedVariables false
set_option linter.unusedSimpArgs false
namespace Go.AM
structure InvM (m : MetD) : Prop where
  nm : nameOK m.1 = true
  kd : kindB m.2.1 = true
  vs : (∀ d ∈ m.2.2.1,DecLOK d ∧ decC d = 0) ∧ 1 ≤ m.2.2.1.length ∧ m.2.2.1.length ≤ 64
  rt : rateB m.2.1 m.2.2.2.1 = true
  tg : (∀ t ∈ m.2.2.2.2.1,tagGood t = true) ∧ m.2.2.2.2.1.length ≤ 32 ∧ StrictT m.2.2.2.2.1
  tm : timeB m.2.2.2.2.2.1 = true
theorem InvM.right {m : MetD} (h : InvM m) : RightM m:=by
  have hn:=zbk h.nm
  refine ⟨⟨by omega,⟨by have:=h.vs.2.2; omega,fun d hd => (h.vs.1 d hd).1⟩,by have:=h.tg.2.1; omega,fun t ht => zxf (zg8 (h.tg.1 t ht))⟩,?_⟩
  have hv : valsB m.2.2.1 = true:=by
    unfold valsB
    simp only [Bool.and_eq_true,decide_eq_true_eq]
    exact ⟨h.vs.2.1,h.vs.2.2,List.all_eq_true.2 (fun d hd => by simp [(h.vs.1 d hd).2])⟩
  have ht : tagsB m.2.2.2.2.1 = true:=by
    unfold tagsB
    simp only [Bool.and_eq_true,decide_eq_true_eq]
    exact ⟨h.tg.2.1,List.all_eq_true.2 h.tg.1⟩
  unfold chkM
  rw [h.nm,h.kd,hv,h.rt,ht,h.tm]
  rfl
theorem RightM.inv {m : MetD} (h : RightM m) (hs : StrictT m.2.2.2.2.1) : InvM m:=by
  obtain ⟨c1,c2,c3,c4,c5,c6⟩:=zax h.chk
  have ht:=zd1 h
  exact ⟨c1,c2,zbo h,c4,⟨fun t htm => (ht.1 t htm).2,ht.2,hs⟩,c6⟩
end Go.AM
set_option linter.unusedVariables false
set_option linter.unusedSimpArgs false
namespace Go.AM
abbrev MetL:=List UInt8 × Int × List DecL × Int × List TagL × Int
def toL (m : MetD) : MetL:=(m.1,m.2.1,m.2.2.1,m.2.2.2.1,m.2.2.2.2.1,m.2.2.2.2.2.1)
theorem growM {X : Type} {v : List MetL} (h : v.length ≤ 100000) (y : Option X) : (bif decide ((v.length + 1) * 88 ≤ 2 ^ 46) && decide (0 < 88 ∧ 88 ≤ 2 ^ 20) then y else none) = y:=by
  rw [decide_eq_true (by omega)]; rfl
def opM (m : MetL) : MetD:=(m.1,m.2.1,m.2.2.1,m.2.2.2.1,m.2.2.2.2.1,m.2.2.2.2.2,())
abbrev BatR:=List MetL × Int × Int × Unit
def BatOK (l : List MetL) : Prop:=∀ m ∈ l,MetOK (opM m)
def nbF : List MetL→List MetL→BatR
  | [],out => (out,0,0,())
  | m :: r,out => if (normM (opM m)).2.1 = 0 then nbF r (out ++ [toL (normM (opM m)).1]) else ([],out.length,(normM (opM m)).2.1,())
def normB (l : List MetL) : BatR:=if 1000 < l.length then ([],1000,12,()) else nbF l []
theorem zxg (n : Nat) (hn : 200000 ≤ n) (k0 kr k1 : List MetL→Int→Int→List MetL→List MetL→Nat→Nat→Option BatR) (h0 : ∀ a b c out d e f,k0 a b c out d e f = some (out,0,0,())) (hr : ∀ a i e out d k f,kr a i e out d k f = some (a,i,e,())) (l : List MetL) (hl : l.length ≤ 1000) (hok : BatOK l) (b4 : List MetL) :
    ∀ (r : List MetL) (i m : Nat) (out b0 : List MetL) (b1 b2 : Int) (k : Nat),l.drop i = r→out.length = i→r.length < m →
    F.zv.L1_batch_all_api_Metric_1 n k0 kr k1 m l (l.length : Int) (i : Int) b0 b1 b2 out b4 k out.length = some (nbF r out):=by
  intro r
  induction r with
  | nil =>
    intro i m out b0 b1 b2 k hi ho hm
    have:=zj hi
    obtain ⟨m,rfl⟩ : ∃ q,m = q + 1:=⟨m - 1,by omega⟩
    rw [F.zv.L1_batch_all_api_Metric_1]
    unfold F.zv.L1_batch_all_api_Metric_1.step
    dsimp only
    rw [ze (by omega),h0]
    rfl
  | cons x r ih =>
    intro i m out b0 b1 b2 k hi ho hm
    obtain ⟨g1,g2,g3⟩:=zi hi
    obtain ⟨m,rfl⟩ : ∃ q,m = q + 1:=⟨m - 1,by omega⟩
    have hN : F.zl n (x.1,x.2.1,x.2.2.1,x.2.2.2.1,x.2.2.2.2.1,x.2.2.2.2.2,()) = some (normM (opM x)):=zce n hn (opM x) (hok x (List.mem_of_getElem? g2))
    rw [F.zv.L1_batch_all_api_Metric_1]
    unfold F.zv.L1_batch_all_api_Metric_1.step
    dsimp only
    rw [zd (by omega),zk,g2,za,hN,za,nbF]
    by_cases h : (normM (opM x)).2.1 = 0
    · rw [if_pos h,h,beq_self_eq_true,Bool.not_true,cond_false,growM (by omega),Nat.beq_refl,cond_true,cond_false,zh (by omega)]
      exact ih (i + 1) m _ b0 b1 b2 k g3 (by simp [ho]) (by simp at hm; omega)
    · rw [if_neg h,beq_eq_false_iff_ne.2 h,Bool.not_false,cond_true,hr]
theorem ze5 (n : Nat) (hn : 200000 ≤ n) (l : List MetL) (hok : BatOK l) : F.zv n l = some (normB l):=by
  unfold F.zv normB
  by_cases h : 1000 < l.length
  · rw [zd (by omega),if_pos h]
  · rw [ze (by omega),if_neg h]
    exact zxg n hn _ _ _ (fun _ _ _ _ _ _ _ => rfl) (fun _ _ _ _ _ _ _ => rfl) l (by omega) hok l l 0 n [] [] 0 0 0 rfl rfl (by omega)
theorem zos (n : Nat) (hn : 200000 ≤ n) (k0 : List MetL→Nat→Option BatR) (kr : List MetL→Int→Int→Nat→Option BatR) (h0 : ∀ out f,k0 out f = some (out,0,0,())) (hr : ∀ a i e f,kr a i e f = some (a,i,e,())) (l : List MetL) (hl : l.length ≤ 1000) (hok : BatOK l) :
    ∀ (r : List MetL) (i m : Nat) (out : List MetL),l.drop i = r→out.length = i→r.length < m →
    F.z8.L5 n k0 kr m l out (i : Int) out.length = some (nbF r out):=by
  intro r
  induction r with
  | nil =>
    intro i m out hi ho hm
    have:=zj hi
    obtain ⟨m,rfl⟩ : ∃ q,m = q + 1:=⟨m - 1,by omega⟩
    rw [F.z8.L5]
    unfold F.z8.L5.step
    dsimp only
    rw [ze (by omega),h0]
    rfl
  | cons x r ih =>
    intro i m out hi ho hm
    obtain ⟨g1,g2,g3⟩:=zi hi
    obtain ⟨m,rfl⟩ : ∃ q,m = q + 1:=⟨m - 1,by omega⟩
    have hN : F.z7 n (x.1,x.2.1,x.2.2.1,x.2.2.2.1,x.2.2.2.2.1,x.2.2.2.2.2,()) = some (normM (opM x)):=zje n hn (opM x) (hok x (List.mem_of_getElem? g2))
    rw [F.z8.L5]
    unfold F.z8.L5.step
    dsimp only
    rw [zd (by omega),zk,g2,za,hN,za,nbF]
    by_cases h : (normM (opM x)).2.1 = 0
    · rw [if_pos h,h,beq_self_eq_true,Bool.not_true,cond_false,growM (by omega),Nat.beq_refl,cond_true,zh (by omega)]
      exact ih (i + 1) m _ g3 (by simp [ho]) (by simp at hm; omega)
    · rw [if_neg h,beq_eq_false_iff_ne.2 h,Bool.not_false,cond_true,hr,ho]
theorem zea (n : Nat) (hn : 200000 ≤ n) (l : List MetL) (hok : BatOK l) : F.z8 n l = some (normB l):=by
  unfold F.z8 normB
  by_cases h : 1000 < l.length
  · rw [zd (by omega),if_pos h]
  · rw [ze (by omega),if_neg h]
    exact zos n hn _ _ (fun _ _ => rfl) (fun _ _ _ _ => rfl) l (by omega) hok l 0 n [] rfl rfl (by omega)
def RightB (l : List MetL) : Prop:=l.length ≤ 1000 ∧ ∀ m ∈ l,RightM (opM m) ∧ StrictT m.2.2.2.2.1
theorem ziz : ∀ (l out : List MetL),BatOK l→(∀ m ∈ out,RightM (opM m) ∧ StrictT m.2.2.2.2.1) →
    ((nbF l out).2 = (0,0,()) ∧ (nbF l out).1.length = out.length + l.length ∧ (∀ m ∈ (nbF l out).1,RightM (opM m) ∧ StrictT m.2.2.2.2.1) ∧ (nbF l out).1 = out ++ l.map fun m => toL (formM (opM m))) ∨
    (∃ i e : Int,e ≠ 0 ∧ nbF l out = ([],i,e,()) ∧ 0 ≤ i ∧ i < out.length + l.length)
  | [],out,_,ho => Or.inl ⟨rfl,by simp [nbF],ho,by simp [nbF]⟩
  | x :: l,out,hok,ho => by
    have hx:=hok x (by simp)
    rw [nbF]
    rcases zcy hx with ⟨h,hR⟩ | ⟨e,he,h⟩
    · rw [h,if_pos rfl]
      rcases ziz l (out ++ [toL (formM (opM x))]) (fun m hm => hok m (by simp [hm])) (fun m hm => by
        rcases List.mem_append.1 hm with hm | hm
        · exact ho m hm
        · rw [List.mem_singleton.1 hm]; exact ⟨hR,zbn _⟩) with ⟨a,b,c,d⟩ | ⟨i,e,a,b,c,d⟩
      · exact Or.inl ⟨a,by rw [b]; simp; omega,c,by rw [d]; simp⟩
      · exact Or.inr ⟨i,e,a,b,c,by simp at d ⊢; omega⟩
    · rw [h,if_neg (show ¬ e = 0 from he)]
      exact Or.inr ⟨out.length,e,he,rfl,by omega,by simp; omega⟩
theorem za1 {l : List MetL} (h : BatOK l) : ((normB l).2 = (0,0,()) ∧ RightB (normB l).1 ∧ (normB l).1 = (l.map fun m => toL (formM (opM m))) ∧ l.length ≤ 1000) ∨ (∃ i e : Int,e ≠ 0 ∧ normB l = ([],i,e,())):=by
  unfold normB
  split
  · exact Or.inr ⟨1000,12,by decide,rfl⟩
  · rcases ziz l [] h (fun m hm => by cases hm) with ⟨a,b,c,d⟩ | ⟨i,e,a,b,_⟩
    · exact Or.inl ⟨a,⟨by rw [b]; simp; omega,c⟩,by rw [d]; rfl,by omega⟩
    · exact Or.inr ⟨i,e,a,b⟩
theorem RightB.ok {l : List MetL} (h : RightB l) : BatOK l:=fun m hm => (h.2 m hm).1.ok
abbrev AtR:=Int × Int × Unit
def chF : List MetL→Nat→AtR
  | [],_ => (0,0,())
  | m :: r,i => if chkM (opM m) = 0 then chF r (i + 1) else ((i : Int),chkM (opM m),())
def sayF (f : Int) : List MetL→Nat→AtR
  | [],_ => (0,0,())
  | m :: r,i => bif saysM (opM m) f then sayF f r (i + 1) else ((i : Int),26,())
def checkB (l : List MetL) : AtR:=if 1000 < l.length then (1000,12,()) else chF l 0
def expB (l : List MetL) (f : Int) : AtR:=if f < 1 ∨ f > 4 then (0,29,()) else if (checkB l).2.1 = 0 then sayF f l 0 else checkB l
theorem growO {X : Type} {v : List Bool} (h : v.length ≤ 100000) (y : Option X) : (bif decide ((v.length + 1) * 1 ≤ 2 ^ 46) && decide (0 < 1 ∧ 1 ≤ 2 ^ 20) then y else none) = y:=by
  rw [decide_eq_true (by omega)]; rfl
theorem zuc (n : Nat) (hn : 200000 ≤ n) (k0 kr k1 : List Bool→Int→Int→List Bool→List MetL→Nat→Nat→Option AtR) (h0 : ∀ a b c out d e f,k0 a b c out d e f = some (0,0,())) (hr : ∀ a i e out d k f,kr a i e out d k f = some (i,e,())) (l : List MetL) (hl : l.length ≤ 1000) (hok : BatOK l) (b4 : List MetL) :
    ∀ (r : List MetL) (i m : Nat) (out b0 : List Bool) (b1 b2 : Int) (k : Nat),l.drop i = r→out.length = i→r.length < m →
    F.zx.L1_batch_all_bool_1 n k0 kr k1 m l (l.length : Int) (i : Int) b0 b1 b2 out b4 k out.length = some (chF r i):=by
  intro r
  induction r with
  | nil =>
    intro i m out b0 b1 b2 k hi ho hm
    have:=zj hi
    obtain ⟨m,rfl⟩ : ∃ q,m = q + 1:=⟨m - 1,by omega⟩
    rw [F.zx.L1_batch_all_bool_1]
    unfold F.zx.L1_batch_all_bool_1.step
    dsimp only
    rw [ze (by omega),h0]
    rfl
  | cons x r ih =>
    intro i m out b0 b1 b2 k hi ho hm
    obtain ⟨g1,g2,g3⟩:=zi hi
    obtain ⟨m,rfl⟩ : ∃ q,m = q + 1:=⟨m - 1,by omega⟩
    have hN : F.zbi n (x.1,x.2.1,x.2.2.1,x.2.2.2.1,x.2.2.2.2.1,x.2.2.2.2.2,()) = some (true,chkM (opM x),()):=by
      unfold F.zbi
      have:=zbb n hn (opM x) (hok x (List.mem_of_getElem? g2))
      unfold opM at this
      rw [this]
      rfl
    rw [F.zx.L1_batch_all_bool_1]
    unfold F.zx.L1_batch_all_bool_1.step
    dsimp only
    rw [zd (by omega),zk,g2,za,hN,za,chF]
    by_cases h : chkM (opM x) = 0
    · rw [if_pos h,h,beq_self_eq_true,Bool.not_true,cond_false,growO (by omega),Nat.beq_refl,cond_true,cond_false,zh (by omega)]
      exact ih (i + 1) m _ b0 b1 b2 k g3 (by simp [ho]) (by simp at hm; omega)
    · rw [if_neg h,beq_eq_false_iff_ne.2 h,Bool.not_false,cond_true,hr,ho]
theorem zmj (n : Nat) (hn : 200000 ≤ n) (l : List MetL) (hok : BatOK l) : F.zx n l = some (checkB l):=by
  unfold F.zx checkB
  by_cases h : 1000 < l.length
  · rw [zd (by omega),if_pos h]
  · rw [ze (by omega),if_neg h]
    exact zuc n hn _ _ _ (fun _ _ _ _ _ _ _ => rfl) (fun _ _ _ _ _ _ _ => rfl) l (by omega) hok l l 0 n [] [] 0 0 0 rfl rfl (by omega)
theorem zot (n : Nat) (hn : 200000 ≤ n) (l : List MetL) (hl : l.length ≤ 1000) (hok : BatOK l) :
    ∀ (r : List MetL) (i m : Nat),l.drop i = r→r.length < m →
    F.zah.L4 n (fun (_ : Unit) => some ((0 : Int),(0 : Int),())) (fun a b => some (a,b,())) m l (i : Int) = some (chF r i):=by
  intro r
  induction r with
  | nil =>
    intro i m hi hm
    have:=zj hi
    obtain ⟨m,rfl⟩ : ∃ q,m = q + 1:=⟨m - 1,by omega⟩
    rw [F.zah.L4]
    unfold F.zah.L4.step
    dsimp only
    rw [ze (by omega)]
    rfl
  | cons x r ih =>
    intro i m hi hm
    obtain ⟨g1,g2,g3⟩:=zi hi
    obtain ⟨m,rfl⟩ : ∃ q,m = q + 1:=⟨m - 1,by omega⟩
    have hN : F.z1 n (x.1,x.2.1,x.2.2.1,x.2.2.2.1,x.2.2.2.2.1,x.2.2.2.2.2,()) = some (chkM (opM x)):=zk7 n hn (opM x) (hok x (List.mem_of_getElem? g2))
    rw [F.zah.L4]
    unfold F.zah.L4.step
    dsimp only
    rw [zd (by omega),zk,g2,za,hN,za,chF]
    by_cases h : chkM (opM x) = 0
    · rw [if_pos h,h,beq_self_eq_true,Bool.not_true,cond_false,zh (by omega)]
      exact ih (i + 1) m g3 (by simp at hm; omega)
    · rw [if_neg h,beq_eq_false_iff_ne.2 h,Bool.not_false,cond_true]
theorem zln (n : Nat) (hn : 200000 ≤ n) (l : List MetL) (hok : BatOK l) : F.zah n l = some (checkB l):=by
  unfold F.zah checkB
  by_cases h : 1000 < l.length
  · rw [zd (by omega),if_pos h]
  · rw [ze (by omega),if_neg h]
    exact zot n hn l (by omega) hok l 0 n rfl (by omega)
theorem zcf (g : MetL→Option Bool) (f : Int) (hg : ∀ x,g x = some (saysM (opM x) f)) (k0 : Unit→Option AtR) (kr : Int→Int→Option AtR) (h0 : k0 () = some (0,0,())) (hr : ∀ a b,kr a b = some (a,b,())) (l : List MetL) (hl : l.length ≤ 1000) (L : Nat→Int→Option AtR)
    (hL : ∀ m i,L (m + 1) i = bif decide (i < (l.length : Int)) then (idx l i).bind fun x => (g x).bind fun y => bif !y then kr i 26 else L m (IntKind.wrap .i64 (i + 1)) else k0 ()) :
    ∀ (r : List MetL) (i m : Nat),l.drop i = r→r.length < m→L m (i : Int) = some (sayF f r i):=by
  intro r
  induction r with
  | nil =>
    intro i m hi hm
    have:=zj hi
    obtain ⟨m,rfl⟩ : ∃ q,m = q + 1:=⟨m - 1,by omega⟩
    rw [hL,ze (by omega),h0]
    rfl
  | cons x r ih =>
    intro i m hi hm
    obtain ⟨g1,g2,g3⟩:=zi hi
    obtain ⟨m,rfl⟩ : ∃ q,m = q + 1:=⟨m - 1,by omega⟩
    rw [hL,zd (by omega),zk,g2,za,hg,za,sayF]
    cases saysM (opM x) f
    · rw [Bool.not_false,cond_true,cond_false,hr]
    · rw [Bool.not_true,cond_false,cond_true,zh (by omega)]
      exact ih (i + 1) m g3 (by simp at hm; omega)
theorem zxh (n : Nat) (hn : 200000 ≤ n) (l : List MetL) (hok : BatOK l) (f : Int) : F.zq n l f = some (expB l f):=by
  have hl : ∀ {p : AtR},checkB l = p→p.2.1 = 0→l.length ≤ 1000:=fun e h0 => by
    unfold checkB at e
    split at e
    · rw [← e] at h0; cases h0
    · omega
  unfold F.zq expB
  rw [zmj n hn l hok]
  have hs:=fun x : MetL => zq0 n (opM x)
  have hg:=fun x : MetL => zq1 n (opM x)
  by_cases h : f < 1 ∨ f > 4
  · rw [if_pos h,beq_eq_false_iff_ne.2 (by omega : f ≠ 1),beq_eq_false_iff_ne.2 (by omega : f ≠ 2),beq_eq_false_iff_ne.2 (by omega : f ≠ 3),beq_eq_false_iff_ne.2 (by omega : f ≠ 4)]
    rfl
  rw [if_neg h]
  simp only [za]
  generalize hc : checkB l = p
  by_cases h0 : p.2.1 = 0
  · have hl:=hl hc h0
    rw [if_pos h0,h0,beq_self_eq_true,Bool.not_true,cond_false,cond_false]
    rcases (by omega : f = 1 ∨ f = 2 ∨ f = 3 ∨ f = 4) with rfl | rfl | rfl | rfl
    · exact zcf (fun x => F.zas n (x.1,x.2.1,x.2.2.1,x.2.2.2.1,x.2.2.2.2.1,x.2.2.2.2.2,())) 1 hs (fun _ => some (0,0,())) (fun a b => some (a,b,())) rfl (fun _ _ => rfl) l hl (fun m i => F.zq.L8 n _ _ m l (l.length : Int) i) (fun _ _ => rfl) l 0 n rfl (by omega)
    · exact zcf (fun x => F.za6 n (x.1,x.2.1,x.2.2.1,x.2.2.2.1,x.2.2.2.2.1,x.2.2.2.2.2,())) 2 (fun _ => rfl) (fun _ => some (0,0,())) (fun a b => some (a,b,())) rfl (fun _ _ => rfl) l hl (fun m i => F.zq.L8_1 n _ _ m l (l.length : Int) i) (fun _ _ => rfl) l 0 n rfl (by omega)
    · exact zcf (fun x => F.zao n (x.1,x.2.1,x.2.2.1,x.2.2.2.1,x.2.2.2.2.1,x.2.2.2.2.2,())) 3 hg (fun _ => some (0,0,())) (fun a b => some (a,b,())) rfl (fun _ _ => rfl) l hl (fun m i => F.zq.L8_2 n _ _ m l (l.length : Int) i) (fun _ _ => rfl) l 0 n rfl (by omega)
    · exact zcf (fun x => F.za6 n (x.1,x.2.1,x.2.2.1,x.2.2.2.1,x.2.2.2.2.1,x.2.2.2.2.2,())) 4 (fun _ => rfl) (fun _ => some (0,0,())) (fun a b => some (a,b,())) rfl (fun _ _ => rfl) l hl (fun m i => F.zq.L8_1 n _ _ m l (l.length : Int) i) (fun _ _ => rfl) l 0 n rfl (by omega)
  · obtain ⟨a,b,_⟩:=p
    rw [if_neg h0,beq_eq_false_iff_ne.2 h0]
    rcases (by omega : f = 1 ∨ f = 2 ∨ f = 3 ∨ f = 4) with rfl | rfl | rfl | rfl <;> rfl
theorem zud (n : Nat) (hn : 200000 ≤ n) (l : List MetL) (hok : BatOK l) (f : Int) : F.zaw n l f = some (expB l f):=by
  unfold F.zaw expB
  by_cases h1 : f < 1
  · rw [zd h1,if_pos (Or.inl h1)]
  rw [ze h1]
  by_cases h2 : f > 4
  · rw [zd h2,if_pos (Or.inr h2)]
  rw [ze h2,if_neg (by omega),zln n hn l hok,za]
  by_cases h0 : (checkB l).2.1 = 0
  · have hl : l.length ≤ 1000:=by
      unfold checkB at h0
      split at h0
      · cases h0
      · omega
    rw [if_pos h0,h0,beq_self_eq_true,Bool.not_true,cond_false]
    exact zcf (fun x => F.zbq n (x.1,x.2.1,x.2.2.1,x.2.2.2.1,x.2.2.2.2.1,x.2.2.2.2.2,()) f) f (fun x => zt1 n (opM x) f) (fun _ => some (0,0,())) (fun a b => some (a,b,())) rfl (fun _ _ => rfl) l hl (fun m i => F.zaw.L7 n _ _ m l f i) (fun _ _ => rfl) l 0 n rfl (by omega)
  · rw [if_neg h0,beq_eq_false_iff_ne.2 h0]
    rfl
theorem zi0 : ∀ (l : List MetL) (i : Nat),(∀ m ∈ l,RightM (opM m))→chF l i = (0,0,())
  | [],_,_ => rfl
  | x :: l,i,h => by rw [chF,if_pos (h x (by simp)).chk,zi0 l _ fun m hm => h m (by simp [hm])]
theorem zlo {l : List MetL} (h : RightB l) : checkB l = (0,0,()):=by
  unfold checkB
  rw [if_neg (by have:=h.1; omega),zi0 l 0 fun m hm => (h.2 m hm).1]
theorem zi1 : ∀ (l : List MetL) (f : Int) (i : Nat),(sayF f l i).2.1 = 0→sayF f l i = (0,0,()) ∧ ∀ m ∈ l,saysM (opM m) f = true
  | [],f,i,_ => ⟨rfl,fun m hm => by cases hm⟩
  | x :: l,f,i,h => by
    rw [sayF] at h ⊢
    cases hx : saysM (opM x) f
    · rw [hx] at h; cases h
    · rw [hx] at h
      obtain ⟨a,b⟩:=zi1 l f (i + 1) h
      exact ⟨a,fun m hm => by
        rcases List.mem_cons.1 hm with rfl | hm
        · exact hx
        · exact b m hm⟩
theorem ze6 {l : List MetL} {f : Int} (h : RightB l) (h0 : (expB l f).2.1 = 0) : expB l f = (0,0,()) ∧ ∀ m ∈ l,expM (opM m) f = 0:=by
  unfold expB at h0 ⊢
  rw [zlo h] at h0 ⊢
  split at h0
  · cases h0
  · rename_i hf
    rw [if_pos rfl] at h0
    rw [if_neg hf,if_pos rfl]
    obtain ⟨a,b⟩:=zi1 l f 0 h0
    refine ⟨a,fun m hm => ?_⟩
    unfold expM
    rw [if_neg hf,if_pos (h.2 m hm).1.chk,b m hm]
    rfl
end Go.AM
set_option linter.unusedVariables false
set_option linter.unusedSimpArgs false
namespace Go.AM
theorem zlp {X : Type} (a : Option (List AV)) (k : Option X) : eqK a a k = k:=by unfold eqK; rw [if_pos rfl]
theorem zb6 (k : List UInt8) (v : Int) (l : List (List UInt8 × Int)) (s : List UInt8) : mpGet ((k,v) :: l) s = if k = s then some v else mpGet l s:=by
  show (bif k == s then some v else mpGet l s) = _
  by_cases h : k = s
  · rw [if_pos h,beq_iff_eq.2 h]; rfl
  · rw [if_neg h,beq_eq_false_iff_ne.2 h]; rfl
theorem zou (k : List UInt8) (v : Int) (l : List (List UInt8 × Int)) (s : List UInt8) (n : Int) : mpSet ((k,v) :: l) s n = if k = s then (k,n) :: l else (k,v) :: mpSet l s n:=by
  show (bif k == s then (k,n) :: l else (k,v) :: mpSet l s n) = _
  by_cases h : k = s
  · rw [if_pos h,beq_iff_eq.2 h]; rfl
  · rw [if_neg h,beq_eq_false_iff_ne.2 h]; rfl
theorem zi2 : ∀ (l : List (List UInt8 × Int)) (s : List UInt8) (v : Int) (t : List UInt8),mpGet (mpSet l s v) t = if s = t then some v else mpGet l t
  | [],s,v,t => by
    show mpGet ((s,v) :: []) t = _
    rw [zb6]
  | (k, w) :: l,s,v,t => by
    rw [zou,zb6]
    by_cases hk : k = s
    · subst hk
      rw [if_pos rfl,zb6]
      by_cases h : k = t
      · rw [if_pos h,if_pos h]
      · rw [if_neg h,if_neg h,if_neg h]
    · rw [if_neg hk,zb6,zi2 l s v t]
      by_cases h : k = t
      · subst h
        rw [if_pos rfl,if_neg (fun e => hk e.symm),if_pos rfl]
      · rw [if_neg h,if_neg h]
def findW (s : List UInt8) : List (List UInt8)→Nat→Nat
  | [],_ => 0
  | w :: r,i => if w = s then i + 1 else findW s r (i + 1)
theorem zi3 (s : List UInt8) : ∀ (l r : List (List UInt8)) (i : Nat),findW s (l ++ r) i = if findW s l i = 0 then findW s r (i + l.length) else findW s l i
  | [],r,i => by simp [findW]
  | w :: l,r,i => by
    by_cases h : w = s
    · have e1 : ∀ q,findW s (w :: q) i = i + 1:=fun q => by show (if w = s then i + 1 else _) = _; rw [if_pos h]
      rw [List.cons_append,e1,e1,if_neg (by omega)]
    · have e1 : ∀ q,findW s (w :: q) i = findW s q (i + 1):=fun q => by show (if w = s then _ else findW s q (i + 1)) = _; rw [if_neg h]
      rw [List.cons_append,e1,e1,zi3 s l r (i + 1),List.length_cons,show i + 1 + l.length = i + (l.length + 1) from by omega]
theorem zbs (s : List UInt8) : ∀ (l : List (List UInt8)) (i : Nat),findW s l i ≤ i + l.length
  | [],i => by simp [findW]
  | w :: l,i => by
    simp only [findW,List.length_cons]
    split
    · omega
    · have:=zbs s l (i + 1); omega
def dput (ws : List (List UInt8)) (s : List UInt8) : List UInt8 × List (List UInt8):=
  if findW s ws 0 = 0 then ([UInt8.ofNat 0] ++ vput s.length ++ s,ws ++ [s]) else (vput (findW s ws 0),ws)
def dmap (L : List (List UInt8 × Int)) (ws : List (List UInt8)) (s : List UInt8) : List (List UInt8 × Int):=
  if findW s ws 0 = 0 then mpSet L s (((ws ++ [s]).length : Nat) : Int) else L
def MapOK (L : List (List UInt8 × Int)) (ws : List (List UInt8)) : Prop:=∀ s,mpGet L s = if findW s ws 0 = 0 then none else some ((findW s ws 0 : Nat) : Int)
theorem MapOK.put {L : List (List UInt8 × Int)} {ws : List (List UInt8)} (h : MapOK L ws) (s : List UInt8) : MapOK (dmap L ws s) (dput ws s).2:=by
  unfold dmap dput
  by_cases hf : findW s ws 0 = 0
  · rw [if_pos hf,if_pos hf]
    intro t
    rw [zi2,zi3]
    by_cases hs : s = t
    · subst hs
      rw [if_pos rfl,hf]
      simp [findW]
    · rw [if_neg hs,h t]
      by_cases ht : findW t ws 0 = 0
      · simp [ht,findW,hs]
      · simp [ht]
  · rw [if_neg hf,if_neg hf]; exact h
theorem zal {ws : List (List UInt8)} {s : List UInt8} (hs : s.length ≤ 200) (hw : ws.length < 65536) : (dput ws s).1.length ≤ 220 ∧ (dput ws s).2.length ≤ ws.length + 1:=by
  unfold dput
  have:=zbs s ws 0
  split
  · have:=zn (n:=s.length) (by omega)
    simp; omega
  · have:=zn (n:=findW s ws 0) (by omega)
    simp only
    omega
theorem growW {X : Type} {k : Nat} (h : k ≤ 100000) (y : Option X) : (bif decide ((k + 1) * 16 ≤ 2 ^ 46) && decide (0 < 16 ∧ 16 ≤ 2 ^ 20) then y else none) = y:=by
  have : decide ((k + 1) * 16 ≤ 2 ^ 46) = true:=by simp only [decide_eq_true_eq]; omega
  rw [this]; rfl
theorem ze7 {X : Type} (n : Nat) (hn : 100 ≤ n) {A : Option (List AV)} {L : List (List UInt8 × Int)} {ws : List (List UInt8)} {s : List UInt8} (hm : MapOK L ws) (hs : s.length ≤ 200) (hw : ws.length < 65536) {P : List UInt8→Option X} {R : List UInt8→List UInt8→Option X} {Q1 Q2 : Option X} :
    mpLook L s (fun x => (F.zh n (IntKind.wrap .u64 (x))).bind fun y => eqK A A (P y))
      (bif decide ((s.length : Int) > (200 : Int)) then Q1 else
       bif decide ((ws.length : Int) ≥ (65536 : Int)) then Q2 else
       bif decide ((ws.length + 1) * 16 ≤ 2 ^ 46) && decide (0 < 16 ∧ 16 ≤ 2 ^ 20) then
        bif Nat.beq ws.length ws.length then
          (F.zh n (0 : Int)).bind fun y29 =>
            (F.zh n (IntKind.wrap .u64 ((s.length : Int)))).bind fun y30 =>
              bif decide ((y29.length + y30.length) * 1 ≤ 2 ^ 46) && decide (0 < 1 ∧ 1 ≤ 2 ^ 20) then
                bif Nat.beq y29.length y29.length then
                  bif decide ((((y29 ++ y30).length) + s.length) * 1 ≤ 2 ^ 46) && decide (0 < 1 ∧ 1 ≤ 2 ^ 20) then
                    bif Nat.beq ((y29 ++ y30).length) ((y29 ++ y30).length) then
                      eqK A A (R y29 y30)
                    else none
                  else none
                else none
              else none
        else none
       else none) = if findW s ws 0 = 0 then R [UInt8.ofNat 0] (vput s.length) else P (vput (findW s ws 0)):=by
  unfold mpLook
  rw [hm s]
  by_cases hf : findW s ws 0 = 0
  · rw [if_pos hf,if_pos hf]
    have h0 : F.zh n (0 : Int) = some [UInt8.ofNat 0]:=by
      have:=zad n hn 0 (by omega)
      rw [zau (by omega)] at this
      exact this
    simp only
    rw [ze (by omega),ze (by omega),growW (by omega),Nat.beq_refl,cond_true,h0,za,zo (by omega),zad n hn s.length (by omega),za]
    have:=zn (n:=s.length) (by omega)
    rw [grow1 (by simp; omega),Nat.beq_refl,cond_true,grow1 (by simp; omega),Nat.beq_refl,cond_true,zlp]
  · rw [if_neg hf,if_neg hf]
    have:=zbs s ws 0
    simp only
    rw [zo (by omega),zad n hn _ (by omega),za,zlp]
def decB (d : DecL) : List UInt8:=vput (if d.1 then 2 * zigN d.2.2 + 1 else 2 * zigN d.2.2) ++ vput d.2.1.toNat
theorem zgj {d : DecL} (h : DecLOK d) (h0 : decC d = 0) : -1000 ≤ d.2.2 ∧ d.2.2 ≤ 1000:=by
  have:=(za9 h0).2; omega
theorem zht {e : Int} (h : -1000 ≤ e ∧ e ≤ 1000) : zigN e ≤ 2000:=by unfold zigN; split <;> omega
theorem zgk {d : DecL} (h : DecLOK d) (h0 : decC d = 0) : (decB d).length ≤ 20:=by
  have he:=zgj h h0
  have:=zht he
  have h1:=zn (n:=if d.1 then 2 * zigN d.2.2 + 1 else 2 * zigN d.2.2) (by split <;> omega)
  have h2:=zn (n:=d.2.1.toNat) (by have:=h.2.1; omega)
  unfold decB
  simp only [List.length_append]
  omega
theorem zrd (n : Nat) (hn : 200000 ≤ n) {d : DecL} (h : DecLOK d) (h0 : decC d = 0) : F.zb8 n (d.1,d.2.1,d.2.2,()) = some (decB d,0,()):=by
  have he:=zgj h h0
  have hz:=zht he
  have hc : F.zh n d.2.1 = some (vput d.2.1.toNat):=by
    have:=zad n (by omega) d.2.1.toNat (by have:=h.2.1; omega)
    rwa [show ((d.2.1.toNat : Nat) : Int) = d.2.1 from by have:=h.2.1; omega] at this
  have l2:=zn (n:=d.2.1.toNat) (by have:=h.2.1; omega)
  unfold F.zb8 decB
  simp only
  rw [zk4 n (by omega) h,za,h0,zx3 n _ he]
  simp only [beq_self_eq_true,Bool.not_true,cond_false,za]
  have es : shlA .u64 ((zigN d.2.2 : Nat) : Int) (1 : Int) = ((2 * zigN d.2.2 : Nat) : Int):=by rw [shl1]; omega
  cases d.1 with
  | true =>
    have l1:=zn (n:=2 * zigN d.2.2 + 1) (by omega)
    simp only [cond_true,if_true]
    rw [es,or1 (by omega),zad n (by omega) _ (by omega),za,hc,za,grow1 (by omega),Nat.beq_refl,cond_true,Nat.beq_refl,cond_true]
    rfl
  | false =>
    have l1:=zn (n:=2 * zigN d.2.2) (by omega)
    simp only [cond_false,Bool.false_eq_true,if_false]
    rw [es,zad n (by omega) _ (by omega),za,hc,za,grow1 (by omega),Nat.beq_refl,cond_true,Nat.beq_refl,cond_true]
    rfl
theorem zov (n : Nat) (hn : 200000 ≤ n) {d : DecL} (h : DecLOK d) (h0 : decC d = 0) : F.zbn n (d.1,d.2.1,d.2.2,()) = some (decB d):=by
  have he:=zgj h h0
  have hz:=zht he
  have hc : F.zp n d.2.1 = some (vput d.2.1.toNat):=by
    have:=zx n (by omega) d.2.1.toNat (by have:=h.2.1; omega)
    rwa [show ((d.2.1.toNat : Nat) : Int) = d.2.1 from by have:=h.2.1; omega] at this
  have l2:=zn (n:=d.2.1.toNat) (by have:=h.2.1; omega)
  unfold F.zbn decB
  simp only
  rw [zw1 n _ he,za]
  have es : IntKind.wrap .u64 ((2 : Int) * ((zigN d.2.2 : Nat) : Int)) = ((2 * zigN d.2.2 : Nat) : Int):=by rw [zo (by omega)]; omega
  cases d.1 with
  | true =>
    have l1:=zn (n:=2 * zigN d.2.2 + 1) (by omega)
    simp only [cond_true,if_true]
    rw [es,show IntKind.wrap .u64 (((2 * zigN d.2.2 : Nat) : Int) + 1) = ((2 * zigN d.2.2 + 1 : Nat) : Int) from by rw [zo (by omega)]; omega,zx n (by omega) _ (by omega),za,hc,za,grow1 (by omega),Nat.beq_refl,cond_true,Nat.beq_refl,cond_true]
    rfl
  | false =>
    have l1:=zn (n:=2 * zigN d.2.2) (by omega)
    simp only [cond_false,Bool.false_eq_true,if_false]
    rw [es,zx n (by omega) _ (by omega),za,hc,za,grow1 (by omega),Nat.beq_refl,cond_true,Nat.beq_refl,cond_true]
    rfl
def valsD (vs : List DecL) : List UInt8:=(vs.map decB).flatten
def tagsD : List (List UInt8)→List TagL→List UInt8 × List (List UInt8)
  | ws,[] => ([],ws)
  | ws,t :: r => ((dput ws t.1).1 ++ (dput (dput ws t.1).2 t.2).1 ++ (tagsD (dput (dput ws t.1).2 t.2).2 r).1,(tagsD (dput (dput ws t.1).2 t.2).2 r).2)
def recD (ws : List (List UInt8)) (m : MetL) : List UInt8 × List (List UInt8):=
  ((dput ws m.1).1 ++ [UInt8.ofNat (IntKind.wrap .u8 m.2.1).toNat] ++ vput m.2.2.1.length ++ valsD m.2.2.1 ++ vput m.2.2.2.1.toNat ++ vput m.2.2.2.2.1.length ++ (tagsD (dput ws m.1).2 m.2.2.2.2.1).1 ++ vput m.2.2.2.2.2.toNat,(tagsD (dput ws m.1).2 m.2.2.2.2.1).2)
def payD : List (List UInt8)→List MetL→List UInt8
  | ws,[] => []
  | ws,m :: r => (recD ws m).1 ++ payD (recD ws m).2 r
theorem zcr : ∀ (vs : List DecL),(∀ d ∈ vs,DecLOK d ∧ decC d = 0)→(valsD vs).length ≤ 20 * vs.length
  | [],_ => by simp [valsD]
  | d :: r,h => by
    have h1:=zgk (h d (by simp)).1 (h d (by simp)).2
    have h2:=zcr r fun x hx => h x (by simp [hx])
    unfold valsD at h2 ⊢
    simp only [List.map_cons,List.flatten_cons,List.length_append,List.length_cons]
    omega
theorem zcs : ∀ (ts : List TagL) (ws : List (List UInt8)),(∀ t ∈ ts,t.1.length ≤ 200 ∧ t.2.length ≤ 200)→ws.length + 2 * ts.length < 65536→(tagsD ws ts).1.length ≤ 440 * ts.length ∧ (tagsD ws ts).2.length ≤ ws.length + 2 * ts.length
  | [],ws,_,_ => by simp [tagsD]
  | t :: r,ws,h,hw => by
    simp only [List.length_cons] at hw
    have h0:=h t (by simp)
    have h1:=zal (ws:=ws) h0.1 (by omega)
    have h2:=zal (ws:=(dput ws t.1).2) h0.2 (by omega)
    have h3:=zcs r (dput (dput ws t.1).2 t.2).2 (fun x hx => h x (by simp [hx])) (by omega)
    simp only [tagsD,List.length_append,List.length_cons]
    omega
end Go.AM
set_option linter.unusedVariables false
set_option linter.unusedSimpArgs false
namespace Go.AM
theorem bif00 {X : Type} (a b : Option X) : (bif (0 : Int) == (0 : Int) then a else b) = a:=rfl
theorem zue {X : Type} (n : Nat) (hn : 200000 ≤ n) (k1 : _) (L : _) (ws : _) (b20 b21 b22 b23 b24 b25 b30 b31 b33 b34 b35 : _) (vs : List DecL) (t0 t1 : Nat) (hl : vs.length ≤ 10000) (hok : ∀ d ∈ vs,DecLOK d ∧ decC d = 0) : ∀ (r : List DecL) (i m : Nat) (o : List UInt8),vs.drop i = r→r.length < m→o.length + 20 * r.length ≤ 90000000→i ≤ vs.length →
    F.zb.L18_rec_Put (X:=X) n k1 m vs (vs.length : Int) (i : Int) L ws b20 b21 b22 b23 b24 b25 b30 b31 vs b33 b34 b35 o 0 t0 t1 o.length = k1 L ws b20 b21 b22 b23 b24 b25 b30 b31 vs b33 b34 b35 (o ++ valsD r) 0 t0 t1 (o ++ valsD r).length:=by
  intro r
  induction r with
  | nil =>
    intro i m o h1 hm ho hi
    obtain ⟨m,rfl⟩ : ∃ q,m = q + 1:=⟨m - 1,by omega⟩
    rw [F.zb.L18_rec_Put]
    unfold F.zb.L18_rec_Put.step
    dsimp only
    rw [ze (by have:=zj h1; omega)]
    simp [valsD]
  | cons d r ih =>
    intro i m o h1 hm ho hi
    obtain ⟨m,rfl⟩ : ∃ q,m = q + 1:=⟨m - 1,by simp at hm; omega⟩
    obtain ⟨l1,g1,t1'⟩:=zi h1
    simp only [List.length_cons] at hm ho
    obtain ⟨hd,h0⟩:=hok d (List.mem_of_getElem? g1)
    have hb:=zgk hd h0
    rw [F.zb.L18_rec_Put]
    unfold F.zb.L18_rec_Put.step
    dsimp only
    rw [zd (by omega),zk,g1,za,zrd n hn hd h0,za,bif00,grow1 (by simp only; omega),Nat.beq_refl,cond_true,zh (by omega)]
    have:=ih (i + 1) m (o ++ decB d) t1' (by omega) (by simp only [List.length_append]; omega) (by omega)
    simp only
    rw [this]
    simp [valsD]
theorem zuf {X : Type} (n : Nat) (hn : 200000 ≤ n) (kn : _) (c76 c77 c78 : _) {L : List (List UInt8 × Int)} {ws : List (List UInt8)} (b20 b21 b22 b23 b24 b25 b30 b31 b32 b33 b34 b35 : _) (t0 : Nat) (a b : List UInt8) (hM : MapOK L ws) (hb : b.length ≤ 200) (hw : ws.length < 65536) (o : List UInt8) (ho : o.length ≤ 90000000) :
    F.zb.C28_rec_Put (X:=X) n kn c76 c77 c78 L ws b20 b21 b22 b23 b24 b25 b30 b31 b32 b33 b34 b35 o 0 a b t0 ws.length o.length = kn c76 c77 c78 (dmap L ws b) (dput ws b).2 b20 b21 b22 b23 b24 b25 b30 b31 b32 b33 b34 b35 (o ++ (dput ws b).1) 0 t0 (dput ws b).2.length (o ++ (dput ws b).1).length:=by
  have hd:=zal (ws:=ws) hb hw
  unfold F.zb.C28_rec_Put
  refine (ze7 n (by omega) hM hb hw).trans ?_
  unfold dput at hd ⊢
  unfold dmap
  by_cases hf : findW b ws 0 = 0
  · rw [if_pos hf] at hd ⊢
    simp only [if_pos hf]
    simp only at hd
    rw [bif00,grow1 (by omega),Nat.beq_refl,cond_true]
  · rw [if_neg hf] at hd ⊢
    simp only [if_neg hf]
    simp only at hd
    rw [bif00,grow1 (by omega),Nat.beq_refl,cond_true]
theorem zug {X : Type} (n : Nat) (hn : 200000 ≤ n) (k3 : _) (b20 b21 b22 b23 b24 b25 b30 b31 b32 b33 b35 : _) (ts : List TagL) (t0 : Nat) (hl : ts.length ≤ 10000) (hok : ∀ t ∈ ts,t.1.length ≤ 200 ∧ t.2.length ≤ 200) : ∀ (r : List TagL) (i m : Nat) (L : List (List UInt8 × Int)) (ws : List (List UInt8)) (o : List UInt8),ts.drop i = r→r.length < m→o.length + 440 * r.length ≤ 80000000→i ≤ ts.length→MapOK L ws→ws.length + 2 * r.length < 65536 →
    ∃ L',MapOK L' (tagsD ws r).2 ∧ F.zb.L25_rec_Put (X:=X) n k3 m ts (ts.length : Int) (i : Int) L ws b20 b21 b22 b23 b24 b25 b30 b31 b32 b33 ts b35 o 0 t0 ws.length o.length = k3 L' (tagsD ws r).2 b20 b21 b22 b23 b24 b25 b30 b31 b32 b33 ts b35 (o ++ (tagsD ws r).1) 0 t0 (tagsD ws r).2.length (o ++ (tagsD ws r).1).length:=by
  intro r
  induction r with
  | nil =>
    intro i m L ws o h1 hm ho hi hM hw
    obtain ⟨m,rfl⟩ : ∃ q,m = q + 1:=⟨m - 1,by omega⟩
    refine ⟨L,hM,?_⟩
    rw [F.zb.L25_rec_Put]
    unfold F.zb.L25_rec_Put.step
    dsimp only
    rw [ze (by have:=zj h1; omega)]
    simp [tagsD]
  | cons t r ih =>
    intro i m L ws o h1 hm ho hi hM hw
    obtain ⟨m,rfl⟩ : ∃ q,m = q + 1:=⟨m - 1,by simp at hm; omega⟩
    obtain ⟨l1,g1,t1'⟩:=zi h1
    simp only [List.length_cons] at hm ho hw
    obtain ⟨ha,hb⟩:=hok t (List.mem_of_getElem? g1)
    have d1:=zal (ws:=ws) ha (by omega)
    have d2:=zal (ws:=(dput ws t.1).2) hb (by omega)
    have hM1:=hM.put t.1
    have hM2:=hM1.put t.2
    obtain ⟨L',hL',e⟩:=ih (i + 1) m _ _ (o ++ (dput ws t.1).1 ++ (dput (dput ws t.1).2 t.2).1) t1' (by omega) (by simp only [List.length_append]; omega) (by omega) hM2 (by omega)
    refine ⟨L',hL',?_⟩
    rw [F.zb.L25_rec_Put]
    unfold F.zb.L25_rec_Put.step
    dsimp only
    rw [zd (by omega),zk,g1,za]
    refine (ze7 n (by omega) hM ha (by omega)).trans ?_
    have key : ∀ (o1 : List UInt8) (w1 : List (List UInt8)) (M1 : List (List UInt8 × Int)),o1 = o ++ (dput ws t.1).1→w1 = (dput ws t.1).2→M1 = dmap L ws t.1 →
        F.zb.C28_rec_Put n (fun e31_76 e31_77 e31_78 e31_b0_0 e31_b1_0 e31_b2_0 e31_b2_1 e31_b2_2 e31_b2_3 e31_b2_4 e31_b2_5 e31_b3_0 e31_b3_1 e31_b3_2 e31_b3_3 e31_b3_4 e31_b3_5 e31_b4_0 e31_b5_0 e31_k0 e31_k1 e31_k2 =>
                        F.zb.L25_rec_Put n k3 m e31_76 e31_77 (IntKind.wrap .i64 (e31_78 + (1 : Int))) e31_b0_0 e31_b1_0 e31_b2_0 e31_b2_1 e31_b2_2 e31_b2_3 e31_b2_4 e31_b2_5 e31_b3_0 e31_b3_1 e31_b3_2 e31_b3_3 e31_b3_4 e31_b3_5 e31_b4_0 e31_b5_0 e31_k0 e31_k1 e31_k2) ts (ts.length : Int) (i : Int) M1 w1 b20 b21 b22 b23 b24 b25 b30 b31 b32 b33 ts b35 o1 0 t.1 t.2 t0 w1.length o1.length = k3 L' (tagsD ws (t :: r)).2 b20 b21 b22 b23 b24 b25 b30 b31 b32 b33 ts b35 (o ++ (tagsD ws (t :: r)).1) 0 t0 (tagsD ws (t :: r)).2.length (o ++ (tagsD ws (t :: r)).1).length:=by
      intro o1 w1 M1 q1 q2 q3
      subst q1 q2 q3
      rw [zuf n hn _ _ _ _ _ _ _ _ _ _ _ _ _ _ _ _ _ _ _ hM1 hb (by omega) _ (by simp only [List.length_append]; omega)]
      rw [zh (by omega),e]
      simp only [tagsD,List.append_assoc]
    unfold dput at d1 key
    unfold dmap at key
    by_cases hf : findW t.1 ws 0 = 0
    · rw [if_pos hf] at d1
      simp only [if_pos hf] at key ⊢
      simp only at d1
      rw [bif00,grow1 (by omega),Nat.beq_refl,cond_true]
      exact key _ _ _ rfl rfl rfl
    · rw [if_neg hf] at d1
      simp only [if_neg hf] at key ⊢
      simp only at d1
      rw [bif00,grow1 (by omega),Nat.beq_refl,cond_true]
      exact key _ _ _ rfl rfl rfl
def restD (ws : List (List UInt8)) (m : MetL) : List UInt8:=[UInt8.ofNat (IntKind.wrap .u8 m.2.1).toNat] ++ vput m.2.2.1.length ++ valsD m.2.2.1 ++ vput m.2.2.2.1.toNat ++ vput m.2.2.2.2.1.length ++ (tagsD ws m.2.2.2.2.1).1 ++ vput m.2.2.2.2.2.toNat
theorem zuh {X : Type} (n : Nat) (hn : 200000 ≤ n) (kr : _) (b20 b21 b22 b23 b24 b25 b30 : _) (b31 : Int) (vs : List DecL) (b33 : Int) (ts : List TagL) (b35 : Int) (t0 : Nat) (hv : ∀ d ∈ vs,DecLOK d ∧ decC d = 0) (hvl : vs.length ≤ 64) (h33 : 0 ≤ b33 ∧ b33 ≤ 1000000) (ht : ∀ t ∈ ts,t.1.length ≤ 200 ∧ t.2.length ≤ 200) (htl : ts.length ≤ 32) (h35 : 0 ≤ b35 ∧ b35 ≤ 1099511627776) (L : List (List UInt8 × Int)) (ws : List (List UInt8)) (o : List UInt8) (ho : o.length ≤ 1000) (hM : MapOK L ws) (hw : ws.length ≤ 65471) :
    ∃ L',MapOK L' (tagsD ws ts).2 ∧ F.zb.C15_rec_Put (X:=X) n kr L ws b20 b21 b22 b23 b24 b25 b30 b31 vs b33 ts b35 o 0 t0 ws.length o.length = kr (o ++ restD ws (b30,b31,vs,b33,ts,b35)) 0 L' (tagsD ws ts).2 b20 b21 b22 b23 b24 b25 t0 (tagsD ws ts).2.length (o ++ restD ws (b30,b31,vs,b33,ts,b35)).length:=by
  have l1:=zn (n:=vs.length) (by omega)
  have l2:=zn (n:=b33.toNat) (by omega)
  have l3:=zn (n:=ts.length) (by omega)
  have l4:=zn (n:=b35.toNat) (by omega)
  have l5:=zcr vs hv
  have l6:=zcs ts ws ht (by omega)
  have p1:=zad n (by omega) vs.length (by omega)
  have p2:=zad n (by omega) b33.toNat (by omega)
  have p3:=zad n (by omega) ts.length (by omega)
  have p4:=zad n (by omega) b35.toNat (by omega)
  rw [show ((b33.toNat : Nat) : Int) = b33 from by omega] at p2
  rw [show ((b35.toNat : Nat) : Int) = b35 from by omega] at p4
  obtain ⟨L', hL',e⟩:=zug (X:=X) n hn (fun e43_b0_0 e43_b1_0 e43_b2_0 e43_b2_1 e43_b2_2 e43_b2_3 e43_b2_4 e43_b2_5 e43_b3_0 e43_b3_1 e43_b3_2 e43_b3_3 e43_b3_4 e43_b3_5 e43_b4_0 e43_b5_0 e43_k0 e43_k1 e43_k2 =>
      (F.zh n (IntKind.wrap .u64 (e43_b3_5))).bind fun y44 =>
        bif e43_b5_0 == (0 : Int) then
          bif decide ((e43_b4_0.length + y44.length) * 1 ≤ 2 ^ 46) && decide (0 < 1 ∧ 1 ≤ 2 ^ 20) then
            bif Nat.beq e43_k2 e43_b4_0.length then
              kr (e43_b4_0 ++ y44) (0 : Int) e43_b0_0 e43_b1_0 e43_b2_0 e43_b2_1 e43_b2_2 e43_b2_3 e43_b2_4 e43_b2_5 e43_k0 e43_k1 ((e43_b4_0 ++ y44).length)
            else
              none
          else
            none
        else
        bif decide ((e43_b4_0.length + y44.length) * 1 ≤ 2 ^ 46) && decide (0 < 1 ∧ 1 ≤ 2 ^ 20) then
          bif Nat.beq e43_k2 e43_b4_0.length then
            bif !(e43_b5_0 == (0 : Int)) then
              kr [] e43_b5_0 e43_b0_0 e43_b1_0 e43_b2_0 e43_b2_1 e43_b2_2 e43_b2_3 e43_b2_4 e43_b2_5 e43_k0 e43_k1 0
            else
              kr (e43_b4_0 ++ y44) (0 : Int) e43_b0_0 e43_b1_0 e43_b2_0 e43_b2_1 e43_b2_2 e43_b2_3 e43_b2_4 e43_b2_5 e43_k0 e43_k1 ((e43_b4_0 ++ y44).length)
          else
            none
        else
          none) b20 b21 b22 b23 b24 b25 b30 b31 vs b33 b35 ts t0 (by omega) ht ts 0 n L ws (o ++ [UInt8.ofNat (IntKind.wrap .u8 b31).toNat] ++ vput vs.length ++ valsD vs ++ vput b33.toNat ++ vput ts.length) (by simp) (by omega) (by simp only [List.length_append,List.length_cons,List.length_nil]; omega) (by omega) hM (by omega)
  refine ⟨L',hL',?_⟩
  unfold F.zb.C15_rec_Put
  rw [bif00,grow1 (by omega),Nat.beq_refl,cond_true]
  unfold F.zb.C16_rec_Put
  rw [zo (by omega),p1,za,bif00,grow1 (by simp only [List.length_append,List.length_cons,List.length_nil]; omega),Nat.beq_refl,cond_true]
  unfold F.zb.C17_rec_Put
  refine (zue n hn _ _ _ _ _ _ _ _ _ _ _ _ _ _ vs _ _ (by omega) hv vs 0 n _ (by simp) (by omega) (by simp only [List.length_append,List.length_cons,List.length_nil]; omega) (by omega)).trans ?_
  rw [zo (by omega),p2,za,bif00,grow1 (by simp only [List.length_append,List.length_cons,List.length_nil]; omega),Nat.beq_refl,cond_true]
  unfold F.zb.C23_rec_Put
  rw [zo (by omega),p3,za,bif00,grow1 (by simp only [List.length_append,List.length_cons,List.length_nil]; omega),Nat.beq_refl,cond_true]
  unfold F.zb.C24_rec_Put
  refine e.trans ?_
  rw [zo (by omega),p4,za,bif00,grow1 (by simp only [List.length_append,List.length_cons,List.length_nil]; omega),Nat.beq_refl,cond_true]
  simp only [restD,List.append_assoc]
end Go.AM
set_option linter.unusedVariables false
set_option linter.unusedSimpArgs false
namespace Go.AM
theorem zui {t : TagL} (h : tagGood t = true) : (oneT t).length ≤ 165:=by
  unfold tagGood at h
  simp only [Bool.and_eq_true,beq_iff_eq] at h
  have h1:=zba h.1
  have h2:=zba h.2
  unfold oneT
  split <;> simp <;> omega
theorem zmk {ts : List TagL} (h : ∀ t ∈ ts,tagGood t = true) (hl : ts.length ≤ 32) : (tagText ts).length ≤ 5312:=by
  unfold tagText
  have:=znn [44] 165 (ts.map oneT) (fun x hx => by
    obtain ⟨t,ht,rfl⟩:=List.mem_map.1 hx
    exact zui (h t ht))
  rw [List.length_map] at this
  have h2 : ts.length * (165 + [(44 : UInt8)].length) ≤ 32 * 166:=Nat.mul_le_mul_right _ hl
  omega
theorem zuj {m : MetD} (h : InvM m) : (lineD m).length ≤ 8192:=by
  have h1:=zbk h.nm
  have h2:=zgg h.vs.1
  have h3:=zdz m.2.1
  have h4:=(zgh h.rt).1
  have h6:=(zgi h.tm).1
  have h5 : (tagsP m.2.2.2.2.1).length ≤ 5314:=by
    have:=zmk h.tg.1 h.tg.2.1
    unfold tagsP
    split
    · simp
    · simp only [List.length_append,List.length_cons,List.length_nil]; omega
  have:=h.vs.2.2
  unfold lineD
  simp only [List.length_append,List.length_cons,List.length_nil]
  omega
theorem zow (n : Nat) (a b : TagL) : F.zck n (a.1,a.2,()) (b.1,b.2,()) = some (ltT a b):=by
  unfold F.zck ltT
  dsimp only
  by_cases e : a.1 = b.1
  · rw [if_pos e,e,beq_self_eq_true]; rfl
  · rw [if_neg e,beq_eq_false_iff_ne.2 e]; rfl
theorem zox (n : Nat) (X : Type) (k0 : Unit→Option X) (kr : Bool→Option X) (l : List TagL) (hl : l.length ≤ 1000) (hs : StrictT l) : ∀ (j i m : Nat),i + j = l.length→1 ≤ i→j < m→F.za7.L2 n k0 kr m l (i : Int) = k0 ():=by
  intro j
  induction j with
  | zero =>
    intro i m h1 hi hm
    obtain ⟨m,rfl⟩ : ∃ q,m = q + 1:=⟨m - 1,by omega⟩
    rw [F.za7.L2]
    unfold F.za7.L2.step
    dsimp only
    rw [ze (by omega)]
  | succ j ih =>
    intro i m h1 hi hm
    obtain ⟨m,rfl⟩ : ∃ q,m = q + 1:=⟨m - 1,by omega⟩
    have hw : IntKind.wrap .i64 ((i : Int) - 1) = ((i - 1 : Nat) : Int):=by rw [zq (by omega)]; omega
    have hlt : ltT l[i - 1] l[i] = true:=List.pairwise_iff_getElem.1 hs (i - 1) i (by omega) (by omega) (by omega)
    rw [F.za7.L2]
    unfold F.za7.L2.step
    dsimp only
    rw [zd (by omega),hw,zev (by omega : i - 1 < l.length),za,zev (by omega : i < l.length),za,zow,za,hlt,Bool.not_true,cond_false,zh (by omega),ih (i + 1) m (by omega) (by omega) (by omega)]
theorem zuk (n : Nat) (hn : 200000 ≤ n) (l : List TagL) (hl : l.length ≤ 1000) (hs : StrictT l) : F.za7 n l = some true:=by
  unfold F.za7
  by_cases h : l = []
  · subst h
    obtain ⟨m,rfl⟩ : ∃ q,n = q + 1:=⟨n - 1,by omega⟩
    rfl
  · have:=List.length_pos_iff.2 h
    exact zox n Bool _ _ l hl hs (l.length - 1) 1 n (by omega) (by omega) (by omega)
theorem zul (n : Nat) (hn : 200000 ≤ n) {m : MetD} (h : InvM m) : F.zb2 n m = some true:=by
  unfold F.zb2
  have hc : F.zo n (m.1,m.2.1,m.2.2.1,m.2.2.2.1,m.2.2.2.2.1,m.2.2.2.2.2.1,()) = some (chkM m):=zbb n hn m h.right.ok
  rw [hc,za,h.right.chk,beq_self_eq_true,cond_true,zuk n hn _ (by have:=h.tg.2.1; omega) h.tg.2.2]
  rfl
end Go.AM
set_option linter.unusedVariables false
set_option linter.unusedSimpArgs false
namespace Go.AM
theorem zi4 (ws : List (List UInt8)) (m : MetL) : (recD ws m).1 = (dput ws m.1).1 ++ restD (dput ws m.1).2 m:=by
  simp only [recD,restD,List.append_assoc]
structure PutOK (m : MetL) : Prop where
  nm : m.1.length ≤ 200
  vs : ∀ d ∈ m.2.2.1,DecLOK d ∧ decC d = 0
  vl : m.2.2.1.length ≤ 64
  rt : 0 ≤ m.2.2.2.1 ∧ m.2.2.2.1 ≤ 1000000
  tg : ∀ t ∈ m.2.2.2.2.1,t.1.length ≤ 200 ∧ t.2.length ≤ 200
  tl : m.2.2.2.2.1.length ≤ 32
  tm : 0 ≤ m.2.2.2.2.2 ∧ m.2.2.2.2.2 ≤ 1099511627776
theorem zi5 {m : MetL} (h : RightM (opM m)) (hs : StrictT m.2.2.2.2.1) : PutOK m:=by
  have hi:=h.inv hs
  refine ⟨(zbk hi.nm).2,hi.vs.1,hi.vs.2.2,?_,fun t ht => ?_,hi.tg.2.1,?_⟩
  · have:=hi.rt
    unfold rateB at this
    simp only [Bool.and_eq_true,decide_eq_true_eq] at this
    have h1 : 1 ≤ m.2.2.2.1:=this.1
    exact ⟨by omega,this.2.1⟩
  · have:=hi.tg.1 t ht
    unfold tagGood at this
    simp only [Bool.and_eq_true,beq_iff_eq] at this
    have h1:=zba this.1
    have h2:=zba this.2
    omega
  · have:=hi.tm
    unfold timeB at this
    simp only [Bool.and_eq_true,decide_eq_true_eq] at this
    exact this
theorem znp {m : MetL} (h : PutOK m) {ws : List (List UInt8)} (hw : ws.length ≤ 65400) : (recD ws m).1.length ≤ 16000 ∧ (recD ws m).2.length ≤ ws.length + 65:=by
  have h1:=zal (ws:=ws) h.nm (by omega)
  have h2:=zcr _ h.vs
  have h3:=zcs _ (dput ws m.1).2 h.tg (by have:=h.tl; omega)
  have l1:=zn (n:=m.2.2.1.length) (by have:=h.vl; omega)
  have l2:=zn (n:=m.2.2.2.1.toNat) (by have:=h.rt; omega)
  have l3:=zn (n:=m.2.2.2.2.1.length) (by have:=h.tl; omega)
  have l4:=zn (n:=m.2.2.2.2.2.toNat) (by have:=h.tm; omega)
  have:=h.vl
  have:=h.tl
  simp only [recD,List.length_append,List.length_cons,List.length_nil]
  omega
theorem zoy {X : Type} (n : Nat) (hn : 200000 ≤ n) (a0 : _) (k0 : _) (kr : _) (K : List UInt8→Option X) (hk : ∀ p L w,k0 a0 p L w p.length w.length = K p) (q : List MetL) (hq : q.length ≤ 1000) (hR : ∀ m ∈ q,RightM (opM m) ∧ StrictT m.2.2.2.2.1) :
    ∀ (r : List MetL) (i m : Nat) (L : List (List UInt8 × Int)) (ws : List (List UInt8)) (p : List UInt8),q.drop i = r→r.length < m→MapOK L ws→ws.length ≤ 65 * i→p.length ≤ 20 + 16000 * i→i ≤ q.length →
    F.zb.L7 (X:=X) n k0 kr m a0 p q (q.length : Int) (i : Int) L ws p.length ws.length = K (p ++ payD ws r):=by
  intro r
  induction r with
  | nil =>
    intro i m L ws p h1 hm hM hw hp hi
    obtain ⟨m,rfl⟩ : ∃ q,m = q + 1:=⟨m - 1,by omega⟩
    rw [F.zb.L7]
    unfold F.zb.L7.step
    dsimp only
    rw [ze (by have:=zj h1; omega),hk]
    simp [payD]
  | cons x r ih =>
    intro i m L ws p h1 hm hM hw hp hi
    obtain ⟨m,rfl⟩ : ∃ q,m = q + 1:=⟨m - 1,by simp at hm; omega⟩
    obtain ⟨l1,g1,t1⟩:=zi h1
    simp only [List.length_cons] at hm
    obtain ⟨hx,hs⟩:=hR x (List.mem_of_getElem? g1)
    have hP:=zi5 hx hs
    have hl:=znp hP (ws:=ws) (by omega)
    have e1 : F.zo n (x.1,x.2.1,x.2.2.1,x.2.2.2.1,x.2.2.2.2.1,x.2.2.2.2.2,()) = some 0:=by
      rw [← hx.chk]; exact zbb n hn (opM x) hx.ok
    have e2 : F.zb2 n (x.1,x.2.1,x.2.2.1,x.2.2.2.1,x.2.2.2.2.1,x.2.2.2.2.2,()) = some true:=zul n hn (hx.inv hs)
    have d1:=zal (ws:=ws) hP.nm (by omega)
    obtain ⟨L', hL', e⟩ := zuh (X:=X) n hn (fun e65_4 e65_5 e65_b0_0 e65_b1_0 e65_b2_0 e65_b2_1 e65_b2_2 e65_b2_3 e65_b2_4 e65_b2_5 e65_k0 e65_k1 e65_k2 =>
                            F.zb.C10 n
                              (fun e66_2 e66_3 e66_4 e66_b0_0 e66_b1_0 e66_k0 e66_k1 =>
                                kr e66_2 e66_3 e66_4 e66_b0_0 e66_b1_0 e66_k0 e66_k1)
                              (fun e67_0 e67_9 e67_30 e67_31 e67_32 e67_b0_0 e67_b1_0 e67_k0 e67_k1 =>
                                F.zb.L7 n k0 kr m e67_0 e67_9 e67_30 e67_31 (IntKind.wrap .i64 (e67_32 + (1 : Int))) e67_b0_0 e67_b1_0 e67_k0 e67_k1) a0 p (i : Int) e65_4 e65_5 q (q.length : Int) (i : Int) e65_b0_0 e65_b1_0 e65_k0 e65_k2 e65_k1)
      x.1 x.2.1 x.2.2.1 x.2.2.2.1 x.2.2.2.2.1 x.2.2.2.2.2 x.1 x.2.1 x.2.2.1 x.2.2.2.1 x.2.2.2.2.1 x.2.2.2.2.2 p.length hP.vs hP.vl hP.rt hP.tg hP.tl hP.tm (dmap L ws x.1) (dput ws x.1).2 (dput ws x.1).1 (by omega) (hM.put x.1) (by omega)
    have hrec : (dput ws x.1).1 ++ restD (dput ws x.1).2 (x.1,x.2.1,x.2.2.1,x.2.2.2.1,x.2.2.2.2.1,x.2.2.2.2.2) = (recD ws x).1:=(zi4 ws x).symm
    have e3:=ih (i + 1) m L' (recD ws x).2 (p ++ (recD ws x).1) t1 (by omega) hL' (by omega) (by simp only [List.length_append]; omega) (by omega)
    have key : ∀ (o1 : List UInt8) (w1 : List (List UInt8)) (M1 : List (List UInt8 × Int)),o1 = (dput ws x.1).1→w1 = (dput ws x.1).2→M1 = dmap L ws x.1 →
        F.zb.C15_rec_Put n (fun e65_4 e65_5 e65_b0_0 e65_b1_0 e65_b2_0 e65_b2_1 e65_b2_2 e65_b2_3 e65_b2_4 e65_b2_5 e65_k0 e65_k1 e65_k2 =>
                            F.zb.C10 n
                              (fun e66_2 e66_3 e66_4 e66_b0_0 e66_b1_0 e66_k0 e66_k1 =>
                                kr e66_2 e66_3 e66_4 e66_b0_0 e66_b1_0 e66_k0 e66_k1)
                              (fun e67_0 e67_9 e67_30 e67_31 e67_32 e67_b0_0 e67_b1_0 e67_k0 e67_k1 =>
                                F.zb.L7 n k0 kr m e67_0 e67_9 e67_30 e67_31 (IntKind.wrap .i64 (e67_32 + (1 : Int))) e67_b0_0 e67_b1_0 e67_k0 e67_k1) a0 p (i : Int) e65_4 e65_5 q (q.length : Int) (i : Int) e65_b0_0 e65_b1_0 e65_k0 e65_k2 e65_k1)
          M1 w1 x.1 x.2.1 x.2.2.1 x.2.2.2.1 x.2.2.2.2.1 x.2.2.2.2.2 x.1 x.2.1 x.2.2.1 x.2.2.2.1 x.2.2.2.2.1 x.2.2.2.2.2 o1 0 p.length w1.length o1.length = K (p ++ payD ws (x :: r)):=by
      intro o1 w1 M1 q1 q2 q3
      subst q1 q2 q3
      rw [e,hrec]
      unfold F.zb.C10
      rw [show (!((0 : Int) == (0 : Int))) = false from rfl,cond_false,grow1 (by omega),Nat.beq_refl,cond_true]
      dsimp only
      rw [zh (by omega)]
      refine e3.trans ?_
      simp only [payD,List.append_assoc]
    rw [F.zb.L7]
    unfold F.zb.L7.step
    dsimp only
    rw [zd (by omega),zk,g1,za,e1,za,show (!((0 : Int) == (0 : Int))) = false from rfl,cond_false,e2,za,Bool.not_true,cond_false,ze (by omega)]
    refine (ze7 n (by omega) hM hP.nm (by omega)).trans ?_
    unfold dput at d1 key
    unfold dmap at key
    by_cases hf : findW x.1 ws 0 = 0
    · rw [if_pos hf] at d1
      simp only [if_pos hf] at key ⊢
      simp only at d1
      rw [grow1 (by omega)]
      exact key _ _ _ rfl rfl rfl
    · rw [if_neg hf] at d1
      simp only [if_neg hf] at key ⊢
      simp only at d1
      rw [grow1 (by omega)]
      exact key _ _ _ rfl rfl rfl
def frameB (l : List MetL) : List UInt8 × Int × Int × Unit:=
  if (normB l).2.2.1 = 0 then
    let p:=vput (normB l).1.length ++ payD [] (normB l).1
    if 1048576 < p.length then ([],(l.length : Int),12,()) else
      let o:=[UInt8.ofNat ((77 : Int)).toNat,UInt8.ofNat ((71 : Int)).toNat,UInt8.ofNat ((1 : Int)).toNat] ++ vput p.length ++ p
      (o ++ crcB o,0,0,())
  else ([],(normB l).2.1,(normB l).2.2.1,())
theorem zfx (n : Nat) (hn : 2000000 ≤ n) (l : List MetL) (hok : BatOK l) : F.zb n l = some (frameB l):=by
  unfold F.zb frameB
  rw [ze5 n (by omega) l hok,za]
  rcases za1 hok with ⟨h1,h2,h3,h4⟩ | ⟨i,e,h1,h2⟩
  · have hc : (normB l).2.2.1 = 0:=by rw [h1]
    have hl:=zn (n:=(normB l).1.length) (by have:=h2.1; omega)
    rw [hc,if_pos rfl,show (!((0 : Int) == (0 : Int))) = false from rfl,cond_false,zo (by have:=h2.1; omega),zad n (by omega) _ (by have:=h2.1; omega),za]
    have hnil : MapOK [] []:=fun s => rfl
    refine (zoy n (by omega) l _ _ (fun p => if 1048576 < p.length then some ([],(l.length : Int),12,()) else
      some ([UInt8.ofNat ((77 : Int)).toNat,UInt8.ofNat ((71 : Int)).toNat,UInt8.ofNat ((1 : Int)).toNat] ++ vput p.length ++ p ++ crcB ([UInt8.ofNat ((77 : Int)).toNat,UInt8.ofNat ((71 : Int)).toNat,UInt8.ofNat ((1 : Int)).toNat] ++ vput p.length ++ p),0,0,())) ?_ (normB l).1 h2.1 h2.2 (normB l).1 0 n [] [] _ (by simp) (by have:=h2.1; omega) hnil (by simp) (by omega) (by omega)).trans ?_
    · intro p L w
      by_cases hp : 1048576 < p.length
      · rw [zd (by omega),if_pos hp]
      · have l2:=zn (n:=p.length) (by omega)
        have lc : ∀ o,(crcB o).length = 4:=fun o => rfl
        rw [ze (by omega),if_neg hp,zo (by omega),zad n (by omega) _ (by omega),za,grow1 (by omega),grow1 (by simp only [List.length_append,List.length_cons,List.length_nil]; omega),Nat.beq_refl,cond_true,
          zqc n (by omega) _ (by simp only [List.length_append,List.length_cons,List.length_nil]; omega) (by simp only [List.length_append,List.length_cons,List.length_nil]; omega),za,zma,za,
          grow1 (by rw [lc]; simp only [List.length_append,List.length_cons,List.length_nil]; omega),Nat.beq_refl,cond_true]
    · simp only
      split <;> rfl
  · rw [h2,if_neg h1]
    dsimp only
    rw [beq_eq_false_iff_ne.2 h1,Bool.not_false,cond_true]
end Go.AM
set_option linter.unusedVariables false
set_option linter.unusedSimpArgs false
namespace Go.AM
theorem byteBk (x : UInt8) : UInt8.ofNat ((x.toNat : Int)).toNat = x:=by simp
theorem rfind {X : Type} (n : Nat) (k0 kr : _) (s : List UInt8) (ws : List (List UInt8)) (b10 b11 b12 b13 b14 b15 : _) (t0 t1 : Nat) (hw : ws.length ≤ 100000) : ∀ (r : List (List UInt8)) (i m : Nat),ws.drop i = r→r.length < m→i ≤ ws.length →
    F.za.L2_ref15_Dict_Find (X:=X) n k0 kr m s (i : Int) ws b10 b11 b12 b13 b14 b15 t0 t1 = if findW s r i = 0 then k0 ws b10 b11 b12 b13 b14 b15 t0 t1 else kr ((findW s r i : Nat) : Int) ws b10 b11 b12 b13 b14 b15 t0 t1:=by
  intro r
  induction r with
  | nil =>
    intro i m h1 hm hi
    obtain ⟨m,rfl⟩ : ∃ q,m = q + 1:=⟨m - 1,by omega⟩
    rw [F.za.L2_ref15_Dict_Find]
    unfold F.za.L2_ref15_Dict_Find.step
    dsimp only
    rw [ze (by have:=zj h1; omega)]
    rfl
  | cons w r ih =>
    intro i m h1 hm hi
    obtain ⟨m,rfl⟩ : ∃ q,m = q + 1:=⟨m - 1,by simp at hm; omega⟩
    obtain ⟨l1,g1,t1'⟩:=zi h1
    simp only [List.length_cons] at hm
    rw [F.za.L2_ref15_Dict_Find]
    unfold F.za.L2_ref15_Dict_Find.step
    dsimp only
    rw [zd (by omega),zk,g1,za,zh (by omega),ih (i + 1) m t1' (by omega) (by omega)]
    by_cases hs : w = s
    · have e1 : findW s (w :: r) i = i + 1:=by show (if w = s then i + 1 else _) = _; rw [if_pos hs]
      rw [beq_iff_eq.2 hs,cond_true,e1,if_neg (by omega)]
    · have e1 : findW s (w :: r) i = findW s r (i + 1):=by show (if w = s then _ else findW s r (i + 1)) = _; rw [if_neg hs]
      rw [beq_eq_false_iff_ne.2 hs,cond_false,e1]
theorem zxi {X : Type} (n : Nat) (k0 kr : _) (s : List UInt8) (ws : List (List UInt8)) (b10 b11 b12 b13 b14 b15 : _) (t0 t1 t2 : Nat) (hw : ws.length ≤ 100000) : ∀ (r : List (List UInt8)) (i m : Nat),ws.drop i = r→r.length < m→i ≤ ws.length →
    F.za.L2_ref15_Dict_Find_1 (X:=X) n k0 kr m s (i : Int) ws b10 b11 b12 b13 b14 b15 t0 t1 t2 = if findW s r i = 0 then k0 ws b10 b11 b12 b13 b14 b15 t0 t1 t2 else kr ((findW s r i : Nat) : Int) ws b10 b11 b12 b13 b14 b15 t0 t1 t2:=by
  intro r
  induction r with
  | nil =>
    intro i m h1 hm hi
    obtain ⟨m,rfl⟩ : ∃ q,m = q + 1:=⟨m - 1,by omega⟩
    rw [F.za.L2_ref15_Dict_Find_1]
    unfold F.za.L2_ref15_Dict_Find_1.step
    dsimp only
    rw [ze (by have:=zj h1; omega)]
    rfl
  | cons w r ih =>
    intro i m h1 hm hi
    obtain ⟨m,rfl⟩ : ∃ q,m = q + 1:=⟨m - 1,by simp at hm; omega⟩
    obtain ⟨l1,g1,t1'⟩:=zi h1
    simp only [List.length_cons] at hm
    rw [F.za.L2_ref15_Dict_Find_1]
    unfold F.za.L2_ref15_Dict_Find_1.step
    dsimp only
    rw [zd (by omega),zk,g1,za,zh (by omega),ih (i + 1) m t1' (by omega) (by omega)]
    by_cases hs : w = s
    · have e1 : findW s (w :: r) i = i + 1:=by show (if w = s then i + 1 else _) = _; rw [if_pos hs]
      rw [beq_iff_eq.2 hs,cond_true,e1,if_neg (by omega)]
    · have e1 : findW s (w :: r) i = findW s r (i + 1):=by show (if w = s then _ else findW s r (i + 1)) = _; rw [if_neg hs]
      rw [beq_eq_false_iff_ne.2 hs,cond_false,e1]
theorem zxj {X : Type} (n : Nat) (k0 kr : _) (s : List UInt8) (ws : List (List UInt8)) (b10 b11 b12 b13 b14 b15 : _) (t0 t1 t2 t3 : Nat) (hw : ws.length ≤ 100000) : ∀ (r : List (List UInt8)) (i m : Nat),ws.drop i = r→r.length < m→i ≤ ws.length →
    F.za.L2_ref15_Dict_Find_2 (X:=X) n k0 kr m s (i : Int) ws b10 b11 b12 b13 b14 b15 t0 t1 t2 t3 = if findW s r i = 0 then k0 ws b10 b11 b12 b13 b14 b15 t0 t1 t2 t3 else kr ((findW s r i : Nat) : Int) ws b10 b11 b12 b13 b14 b15 t0 t1 t2 t3:=by
  intro r
  induction r with
  | nil =>
    intro i m h1 hm hi
    obtain ⟨m,rfl⟩ : ∃ q,m = q + 1:=⟨m - 1,by omega⟩
    rw [F.za.L2_ref15_Dict_Find_2]
    unfold F.za.L2_ref15_Dict_Find_2.step
    dsimp only
    rw [ze (by have:=zj h1; omega)]
    rfl
  | cons w r ih =>
    intro i m h1 hm hi
    obtain ⟨m,rfl⟩ : ∃ q,m = q + 1:=⟨m - 1,by simp at hm; omega⟩
    obtain ⟨l1,g1,t1'⟩:=zi h1
    simp only [List.length_cons] at hm
    rw [F.za.L2_ref15_Dict_Find_2]
    unfold F.za.L2_ref15_Dict_Find_2.step
    dsimp only
    rw [zd (by omega),zk,g1,za,zh (by omega),ih (i + 1) m t1' (by omega) (by omega)]
    by_cases hs : w = s
    · have e1 : findW s (w :: r) i = i + 1:=by show (if w = s then i + 1 else _) = _; rw [if_pos hs]
      rw [beq_iff_eq.2 hs,cond_true,e1,if_neg (by omega)]
    · have e1 : findW s (w :: r) i = findW s r (i + 1):=by show (if w = s then _ else findW s r (i + 1)) = _; rw [if_neg hs]
      rw [beq_eq_false_iff_ne.2 hs,cond_false,e1]
theorem rcopyW {X : Type} (n : Nat) (k0 : _) (s : List UInt8) (ws : _) (b10 b11 b12 b13 b14 b15 : _) (t0 t1 t2 t3 : Nat) (hs : s.length ≤ 100000) : ∀ (r : List UInt8) (i m : Nat) (o : List UInt8),s.drop i = r→r.length < m→i ≤ s.length→o.length + r.length ≤ 1000000 →
    F.za.L9_ref15_Dict_Put (X:=X) n k0 m s o (i : Int) ws b10 b11 b12 b13 b14 b15 t0 t1 t2 t3 o.length = k0 (o ++ r) ws b10 b11 b12 b13 b14 b15 t0 t1 t2 t3 (o ++ r).length:=by
  intro r
  induction r with
  | nil =>
    intro i m o h1 hm hi ho
    obtain ⟨m,rfl⟩ : ∃ q,m = q + 1:=⟨m - 1,by omega⟩
    rw [F.za.L9_ref15_Dict_Put]
    unfold F.za.L9_ref15_Dict_Put.step
    dsimp only
    rw [ze (by have:=zj h1; omega),List.append_nil]
  | cons w r ih =>
    intro i m o h1 hm hi ho
    obtain ⟨m,rfl⟩ : ∃ q,m = q + 1:=⟨m - 1,by simp at hm; omega⟩
    obtain ⟨l1,g1,t1'⟩:=zi h1
    simp only [List.length_cons] at hm ho
    have:=ih (i + 1) m (o ++ [w]) t1' (by omega) (by omega) (by simp only [List.length_append,List.length_cons,List.length_nil]; omega)
    rw [F.za.L9_ref15_Dict_Put]
    unfold F.za.L9_ref15_Dict_Put.step
    dsimp only
    rw [zd (by omega),zk,g1,za,byteBk,grow1 (by omega),Nat.beq_refl,cond_true,zh (by omega),this,List.append_assoc]
    rfl
theorem zum {X : Type} (n : Nat) (k0 : _) (s : List UInt8) (ws : _) (b10 b11 b12 b13 b14 b15 : _) (t0 t1 t2 : Nat) (hs : s.length ≤ 100000) : ∀ (r : List UInt8) (i m : Nat) (o : List UInt8),s.drop i = r→r.length < m→i ≤ s.length→o.length + r.length ≤ 1000000 →
    F.za.L9_ref15_Dict_Put_1 (X:=X) n k0 m s o (i : Int) ws b10 b11 b12 b13 b14 b15 t0 t1 t2 o.length = k0 (o ++ r) ws b10 b11 b12 b13 b14 b15 t0 t1 t2 (o ++ r).length:=by
  intro r
  induction r with
  | nil =>
    intro i m o h1 hm hi ho
    obtain ⟨m,rfl⟩ : ∃ q,m = q + 1:=⟨m - 1,by omega⟩
    rw [F.za.L9_ref15_Dict_Put_1]
    unfold F.za.L9_ref15_Dict_Put_1.step
    dsimp only
    rw [ze (by have:=zj h1; omega),List.append_nil]
  | cons w r ih =>
    intro i m o h1 hm hi ho
    obtain ⟨m,rfl⟩ : ∃ q,m = q + 1:=⟨m - 1,by simp at hm; omega⟩
    obtain ⟨l1,g1,t1'⟩:=zi h1
    simp only [List.length_cons] at hm ho
    have:=ih (i + 1) m (o ++ [w]) t1' (by omega) (by omega) (by simp only [List.length_append,List.length_cons,List.length_nil]; omega)
    rw [F.za.L9_ref15_Dict_Put_1]
    unfold F.za.L9_ref15_Dict_Put_1.step
    dsimp only
    rw [zd (by omega),zk,g1,za,byteBk,grow1 (by omega),Nat.beq_refl,cond_true,zh (by omega),this,List.append_assoc]
    rfl
theorem zun {X : Type} (n : Nat) (k0 : _) (s : List UInt8) (ws : _) (b10 b11 b12 b13 b14 b15 : _) (t0 t1 : Nat) (hs : s.length ≤ 100000) : ∀ (r : List UInt8) (i m : Nat) (o : List UInt8),s.drop i = r→r.length < m→i ≤ s.length→o.length + r.length ≤ 1000000 →
    F.za.L9_ref15_Dict_Put_2 (X:=X) n k0 m s o (i : Int) ws b10 b11 b12 b13 b14 b15 t0 t1 o.length = k0 (o ++ r) ws b10 b11 b12 b13 b14 b15 t0 t1 (o ++ r).length:=by
  intro r
  induction r with
  | nil =>
    intro i m o h1 hm hi ho
    obtain ⟨m,rfl⟩ : ∃ q,m = q + 1:=⟨m - 1,by omega⟩
    rw [F.za.L9_ref15_Dict_Put_2]
    unfold F.za.L9_ref15_Dict_Put_2.step
    dsimp only
    rw [ze (by have:=zj h1; omega),List.append_nil]
  | cons w r ih =>
    intro i m o h1 hm hi ho
    obtain ⟨m,rfl⟩ : ∃ q,m = q + 1:=⟨m - 1,by simp at hm; omega⟩
    obtain ⟨l1,g1,t1'⟩:=zi h1
    simp only [List.length_cons] at hm ho
    have:=ih (i + 1) m (o ++ [w]) t1' (by omega) (by omega) (by simp only [List.length_append,List.length_cons,List.length_nil]; omega)
    rw [F.za.L9_ref15_Dict_Put_2]
    unfold F.za.L9_ref15_Dict_Put_2.step
    dsimp only
    rw [zd (by omega),zk,g1,za,byteBk,grow1 (by omega),Nat.beq_refl,cond_true,zh (by omega),this,List.append_assoc]
    rfl
theorem bif65 {X : Type} {k : Nat} (h : k < 65536) (a b : Option X) : (bif ((k : Int)) == (65536 : Int) then a else b) = b:=by
  rw [beq_eq_false_iff_ne.2 (by omega)]; rfl
theorem rvals {X : Type} (n : Nat) (hn : 200000 ≤ n) (k0 : _) (ws : _) (b10 b11 b13 b14 b15 : _) (vs : List DecL) (t0 t1 : Nat) (hl : vs.length ≤ 10000) (hok : ∀ d ∈ vs,DecLOK d ∧ decC d = 0) : ∀ (r : List DecL) (i m : Nat) (o : List UInt8),vs.drop i = r→r.length < m→o.length + 20 * r.length ≤ 90000000→i ≤ vs.length →
    F.za.L5_ref16_Put (X:=X) n k0 m o (i : Int) ws b10 b11 vs b13 b14 b15 t0 t1 o.length = k0 (o ++ valsD r) ws b10 b11 vs b13 b14 b15 t0 t1 (o ++ valsD r).length:=by
  intro r
  induction r with
  | nil =>
    intro i m o h1 hm ho hi
    obtain ⟨m,rfl⟩ : ∃ q,m = q + 1:=⟨m - 1,by omega⟩
    rw [F.za.L5_ref16_Put]
    unfold F.za.L5_ref16_Put.step
    dsimp only
    rw [ze (by have:=zj h1; omega)]
    simp [valsD]
  | cons d r ih =>
    intro i m o h1 hm ho hi
    obtain ⟨m,rfl⟩ : ∃ q,m = q + 1:=⟨m - 1,by simp at hm; omega⟩
    obtain ⟨l1,g1,t1'⟩:=zi h1
    simp only [List.length_cons] at hm ho
    obtain ⟨hd,h0⟩:=hok d (List.mem_of_getElem? g1)
    have hb:=zgk hd h0
    have:=ih (i + 1) m (o ++ decB d) t1' (by omega) (by simp only [List.length_append]; omega) (by omega)
    rw [F.za.L5_ref16_Put]
    unfold F.za.L5_ref16_Put.step
    dsimp only
    rw [zd (by omega),zk,g1,za,zov n hn hd h0,za,grow1 (by omega),Nat.beq_refl,cond_true,zh (by omega),this]
    simp [valsD]
theorem rword {X : Type} (n : Nat) (hn : 200000 ≤ n) (kn : _) (c5 : List UInt8) (i : Nat) (c9 : List UInt8) (ws : List (List UInt8)) (b10 b11 b12 b13 b15 : _) (ts : List TagL) (t : TagL) (t0 t3 : Nat) (hi : ts[i]? = some t) (hb : t.2.length ≤ 200) (hw : ws.length < 65536) (ho : c5.length + c9.length ≤ 90000000) :
    F.za.C14_ref16_Put (X:=X) n kn c5 (i : Int) c9 ws b10 b11 b12 b13 ts b15 t0 ws.length c5.length t3 = kn (c5 ++ c9 ++ (dput ws t.2).1) (i : Int) (dput ws t.2).2 b10 b11 b12 b13 ts b15 t0 (dput ws t.2).2.length (c5 ++ c9 ++ (dput ws t.2).1).length:=by
  have hd:=zal (ws:=ws) hb hw
  have hfl:=zbs t.2 ws 0
  have l1:=zn (n:=t.2.length) (by omega)
  unfold F.za.C14_ref16_Put
  rw [grow1 (by omega),Nat.beq_refl,cond_true,zk,hi,za]
  refine (zxj n _ _ t.2 ws b10 b11 b12 b13 ts b15 t0 ws.length (c5 ++ c9).length t3 (by omega) ws 0 n (by simp) (by omega) (by omega)).trans ?_
  unfold dput at hd ⊢
  by_cases hf : findW t.2 ws 0 = 0
  · rw [if_pos hf] at hd ⊢
    simp only [if_pos hf]
    simp only at hd
    rw [ze (by omega),bif65 hw,growW (by omega),Nat.beq_refl,cond_true,zo (by omega),zx n (by omega) _ (by omega),za,grow1 (by omega)]
    refine (rcopyW n _ t.2 _ b10 b11 b12 b13 ts b15 t0 _ _ t3 (by omega) t.2 0 n ([UInt8.ofNat ((0 : Int)).toNat] ++ vput t.2.length) (by simp) (by omega) (by omega) (by simp only [List.length_append,List.length_cons,List.length_nil]; omega)).trans ?_
    have e0 : UInt8.ofNat ((0 : Int)).toNat = UInt8.ofNat 0:=rfl
    rw [e0,grow1 (by simp only [List.length_append] at hd ⊢; omega),Nat.beq_refl,cond_true]
  · rw [if_neg hf] at hd ⊢
    simp only [if_neg hf]
    simp only at hd
    rw [zd (by omega),zo (by omega),zx n (by omega) _ (by omega),za,grow1 (by simp only [List.length_append]; omega),Nat.beq_refl,cond_true]
theorem rtags {X : Type} (n : Nat) (hn : 200000 ≤ n) (k2 : _) (b10 b11 b12 b13 b15 : _) (ts : List TagL) (t0 : Nat) (hl : ts.length ≤ 10000) (hok : ∀ t ∈ ts,t.1.length ≤ 200 ∧ t.2.length ≤ 200) : ∀ (r : List TagL) (i m : Nat) (ws : List (List UInt8)) (o : List UInt8),ts.drop i = r→r.length < m→o.length + 440 * r.length ≤ 80000000→i ≤ ts.length→ws.length + 2 * r.length < 65536 →
    F.za.L11_ref16_Put (X:=X) n k2 m o (i : Int) ws b10 b11 b12 b13 ts b15 t0 ws.length o.length = k2 (o ++ (tagsD ws r).1) (tagsD ws r).2 b10 b11 b12 b13 ts b15 t0 (tagsD ws r).2.length (o ++ (tagsD ws r).1).length:=by
  intro r
  induction r with
  | nil =>
    intro i m ws o h1 hm ho hi hw
    obtain ⟨m,rfl⟩ : ∃ q,m = q + 1:=⟨m - 1,by omega⟩
    rw [F.za.L11_ref16_Put]
    unfold F.za.L11_ref16_Put.step
    dsimp only
    rw [ze (by have:=zj h1; omega)]
    simp [tagsD]
  | cons t r ih =>
    intro i m ws o h1 hm ho hi hw
    obtain ⟨m,rfl⟩ : ∃ q,m = q + 1:=⟨m - 1,by simp at hm; omega⟩
    obtain ⟨l1,g1,t1'⟩:=zi h1
    simp only [List.length_cons] at hm ho hw
    obtain ⟨ha,hb⟩:=hok t (List.mem_of_getElem? g1)
    have d1:=zal (ws:=ws) ha (by omega)
    have d2:=zal (ws:=(dput ws t.1).2) hb (by omega)
    have hfl:=zbs t.1 ws 0
    have lv:=zn (n:=t.1.length) (by omega)
    have e:=ih (i + 1) m (dput (dput ws t.1).2 t.2).2 (o ++ (dput ws t.1).1 ++ (dput (dput ws t.1).2 t.2).1) t1' (by omega) (by simp only [List.length_append]; omega) (by omega) (by omega)
    have key : ∀ (o1 : List UInt8) (w1 : List (List UInt8)) (t3 : Nat),o1 = (dput ws t.1).1→w1 = (dput ws t.1).2 →
        F.za.C14_ref16_Put n (fun e32_5 e32_8 e32_b0_0 e32_b1_0 e32_b1_1 e32_b1_2 e32_b1_3 e32_b1_4 e32_b1_5 e32_k0 e32_k1 e32_k2 =>
                F.za.L11_ref16_Put n k2 m e32_5 (IntKind.wrap .i64 (e32_8 + (1 : Int))) e32_b0_0 e32_b1_0 e32_b1_1 e32_b1_2 e32_b1_3 e32_b1_4 e32_b1_5 e32_k0 e32_k1 e32_k2) o (i : Int) o1 w1 b10 b11 b12 b13 ts b15 t0 w1.length o.length t3 = k2 (o ++ (tagsD ws (t :: r)).1) (tagsD ws (t :: r)).2 b10 b11 b12 b13 ts b15 t0 (tagsD ws (t :: r)).2.length (o ++ (tagsD ws (t :: r)).1).length:=by
      intro o1 w1 t3 q1 q2
      subst q1 q2
      rw [rword n hn _ o i _ _ b10 b11 b12 b13 b15 ts t t0 t3 g1 hb (by omega) (by omega)]
      rw [zh (by omega),e]
      simp only [tagsD,List.append_assoc]
    rw [F.za.L11_ref16_Put]
    unfold F.za.L11_ref16_Put.step
    dsimp only
    rw [zd (by omega),zk,g1,za]
    refine (zxi n _ _ t.1 ws b10 b11 b12 b13 ts b15 t0 ws.length o.length (by omega) ws 0 n (by simp) (by omega) (by omega)).trans ?_
    unfold dput at d1 key
    by_cases hf : findW t.1 ws 0 = 0
    · rw [if_pos hf] at d1
      simp only [if_pos hf] at key ⊢
      simp only at d1
      rw [ze (by omega),bif65 (by omega),growW (by omega),Nat.beq_refl,cond_true,zo (by omega),zx n (by omega) _ (by omega),za,grow1 (by omega)]
      refine (zum n _ t.1 _ b10 b11 b12 b13 ts b15 t0 _ _ (by omega) t.1 0 n ([UInt8.ofNat ((0 : Int)).toNat] ++ vput t.1.length) (by simp) (by omega) (by omega) (by simp only [List.length_append,List.length_cons,List.length_nil]; omega)).trans ?_
      exact key _ _ _ rfl rfl
    · rw [if_neg hf] at d1
      simp only [if_neg hf] at key ⊢
      simp only at d1
      rw [zd (by omega),zo (by omega),zx n (by omega) _ (by omega),za]
      exact key _ _ _ rfl rfl
theorem rrest {X : Type} (n : Nat) (hn : 200000 ≤ n) (kr : _) (b10 : _) (b11 : Int) (vs : List DecL) (b13 : Int) (ts : List TagL) (b15 : Int) (t0 : Nat) (hv : ∀ d ∈ vs,DecLOK d ∧ decC d = 0) (hvl : vs.length ≤ 64) (h33 : 0 ≤ b13 ∧ b13 ≤ 1000000) (ht : ∀ t ∈ ts,t.1.length ≤ 200 ∧ t.2.length ≤ 200) (htl : ts.length ≤ 32) (h35 : 0 ≤ b15 ∧ b15 ≤ 1099511627776) (ws : List (List UInt8)) (o : List UInt8) (ho : o.length ≤ 1000) (hw : ws.length ≤ 65471) :
    F.za.C2_ref16_Put (X:=X) n kr o ws b10 b11 vs b13 ts b15 t0 ws.length o.length = kr (o ++ restD ws (b10,b11,vs,b13,ts,b15)) (tagsD ws ts).2 t0 (tagsD ws ts).2.length (o ++ restD ws (b10,b11,vs,b13,ts,b15)).length:=by
  have l1:=zn (n:=vs.length) (by omega)
  have l2:=zn (n:=b13.toNat) (by omega)
  have l3:=zn (n:=ts.length) (by omega)
  have l4:=zn (n:=b15.toNat) (by omega)
  have l5:=zcr vs hv
  have l6:=zcs ts ws ht (by omega)
  have p1:=zx n (by omega) vs.length (by omega)
  have p2:=zx n (by omega) b13.toNat (by omega)
  have p3:=zx n (by omega) ts.length (by omega)
  have p4:=zx n (by omega) b15.toNat (by omega)
  rw [show ((b13.toNat : Nat) : Int) = b13 from by omega] at p2
  rw [show ((b15.toNat : Nat) : Int) = b15 from by omega] at p4
  unfold F.za.C2_ref16_Put
  rw [grow1 (by omega),Nat.beq_refl,cond_true,zo (by omega),p1,za,grow1 (by simp only [List.length_append,List.length_cons,List.length_nil]; omega),Nat.beq_refl,cond_true]
  refine (rvals n hn _ _ _ _ _ _ _ vs _ _ (by omega) hv vs 0 n _ (by simp) (by omega) (by simp only [List.length_append,List.length_cons,List.length_nil]; omega) (by omega)).trans ?_
  rw [zo (by omega),p2,za,grow1 (by simp only [List.length_append,List.length_cons,List.length_nil]; omega),Nat.beq_refl,cond_true,zo (by omega),p3,za,grow1 (by simp only [List.length_append,List.length_cons,List.length_nil]; omega),Nat.beq_refl,cond_true]
  refine (rtags n hn _ _ _ _ _ _ ts _ (by omega) ht ts 0 n ws _ (by simp) (by omega) (by simp only [List.length_append,List.length_cons,List.length_nil]; omega) (by omega) (by omega)).trans ?_
  rw [zo (by omega),p4,za,grow1 (by simp only [List.length_append,List.length_cons,List.length_nil]; omega),Nat.beq_refl,cond_true]
  simp only [restD,List.append_assoc]
theorem zre {X : Type} (n : Nat) (hn : 200000 ≤ n) (k0 : _) (K : List UInt8→Option X) (hk : ∀ p w,k0 p w p.length w.length = K p) (q : List MetL) (hq : q.length ≤ 1000) (hR : ∀ m ∈ q,RightM (opM m) ∧ StrictT m.2.2.2.2.1) :
    ∀ (r : List MetL) (i m : Nat) (ws : List (List UInt8)) (p : List UInt8),q.drop i = r→r.length < m→ws.length ≤ 65 * i→p.length ≤ 20 + 16000 * i→i ≤ q.length →
    F.za.L4 (X:=X) n k0 m q p (i : Int) ws p.length ws.length = K (p ++ payD ws r):=by
  intro r
  induction r with
  | nil =>
    intro i m ws p h1 hm hw hp hi
    obtain ⟨m,rfl⟩ : ∃ q,m = q + 1:=⟨m - 1,by omega⟩
    rw [F.za.L4]
    unfold F.za.L4.step
    dsimp only
    rw [ze (by have:=zj h1; omega),hk]
    simp [payD]
  | cons x r ih =>
    intro i m ws p h1 hm hw hp hi
    obtain ⟨m,rfl⟩ : ∃ q,m = q + 1:=⟨m - 1,by simp at hm; omega⟩
    obtain ⟨l1,g1,t1⟩:=zi h1
    simp only [List.length_cons] at hm
    obtain ⟨hx,hs⟩:=hR x (List.mem_of_getElem? g1)
    have hP:=zi5 hx hs
    have hnm:=hP.nm
    have hl:=znp hP (ws:=ws) (by omega)
    have d1:=zal (ws:=ws) hP.nm (by omega)
    have hfl:=zbs x.1 ws 0
    have lv:=zn (n:=x.1.length) (by omega)
    have e := rrest (X:=X) n hn (fun e54_4 e54_b0_0 e54_k0 e54_k1 e54_k2 =>
                bif decide ((p.length + e54_4.length) * 1 ≤ 2 ^ 46) && decide (0 < 1 ∧ 1 ≤ 2 ^ 20) then
                  bif Nat.beq e54_k0 p.length then
                    F.za.L4 n k0 m q (p ++ e54_4) (IntKind.wrap .i64 ((i : Int) + (1 : Int))) e54_b0_0 ((p ++ e54_4).length) e54_k1
                  else
                    none
                else
                  none) x.1 x.2.1 x.2.2.1 x.2.2.2.1 x.2.2.2.2.1 x.2.2.2.2.2 p.length hP.vs hP.vl hP.rt hP.tg hP.tl hP.tm (dput ws x.1).2 (dput ws x.1).1 (by omega) (by omega)
    have hrec : (dput ws x.1).1 ++ restD (dput ws x.1).2 (x.1,x.2.1,x.2.2.1,x.2.2.2.1,x.2.2.2.2.1,x.2.2.2.2.2) = (recD ws x).1:=(zi4 ws x).symm
    have e3:=ih (i + 1) m (recD ws x).2 (p ++ (recD ws x).1) t1 (by omega) (by omega) (by simp only [List.length_append]; omega) (by omega)
    have key : ∀ (o1 : List UInt8) (w1 : List (List UInt8)),o1 = (dput ws x.1).1→w1 = (dput ws x.1).2 →
        F.za.C2_ref16_Put n (fun e54_4 e54_b0_0 e54_k0 e54_k1 e54_k2 =>
                bif decide ((p.length + e54_4.length) * 1 ≤ 2 ^ 46) && decide (0 < 1 ∧ 1 ≤ 2 ^ 20) then
                  bif Nat.beq e54_k0 p.length then
                    F.za.L4 n k0 m q (p ++ e54_4) (IntKind.wrap .i64 ((i : Int) + (1 : Int))) e54_b0_0 ((p ++ e54_4).length) e54_k1
                  else
                    none
                else
                  none) o1 w1 x.1 x.2.1 x.2.2.1 x.2.2.2.1 x.2.2.2.2.1 x.2.2.2.2.2 p.length w1.length o1.length = K (p ++ payD ws (x :: r)):=by
      intro o1 w1 q1 q2
      subst q1 q2
      rw [e,hrec,grow1 (by omega),Nat.beq_refl,cond_true,zh (by omega)]
      refine e3.trans ?_
      simp only [payD,List.append_assoc]
    rw [F.za.L4]
    unfold F.za.L4.step
    dsimp only
    rw [zd (by omega),zk,g1,za]
    refine (rfind n _ _ x.1 ws x.1 x.2.1 x.2.2.1 x.2.2.2.1 x.2.2.2.2.1 x.2.2.2.2.2 p.length ws.length (by omega) ws 0 n (by simp) (by omega) (by omega)).trans ?_
    unfold dput at d1 key
    by_cases hf : findW x.1 ws 0 = 0
    · rw [if_pos hf] at d1
      simp only [if_pos hf] at key ⊢
      simp only at d1
      rw [ze (by omega),bif65 (by omega),growW (by omega),Nat.beq_refl,cond_true,zo (by omega),zx n (by omega) _ (by omega),za,grow1 (by omega)]
      refine (zun n _ x.1 _ x.1 x.2.1 x.2.2.1 x.2.2.2.1 x.2.2.2.2.1 x.2.2.2.2.2 p.length _ (by omega) x.1 0 n ([UInt8.ofNat ((0 : Int)).toNat] ++ vput x.1.length) (by simp) (by omega) (by omega) (by simp only [List.length_append,List.length_cons,List.length_nil]; omega)).trans ?_
      exact key _ _ rfl rfl
    · rw [if_neg hf] at d1
      simp only [if_neg hf] at key ⊢
      simp only at d1
      rw [zd (by omega),zo (by omega),zx n (by omega) _ (by omega),za]
      exact key _ _ rfl rfl
theorem ze8 (n : Nat) (hn : 2000000 ≤ n) (l : List MetL) (hok : BatOK l) : F.zbd n l = some (frameB l):=by
  unfold F.zbd frameB
  rw [zea n (by omega) l hok,za]
  rcases za1 hok with ⟨h1,h2,h3,h4⟩ | ⟨i,e,h1,h2⟩
  · have hc : (normB l).2.2.1 = 0:=by rw [h1]
    have hl:=zn (n:=(normB l).1.length) (by have:=h2.1; omega)
    have hpay : F.za n (normB l).1 = some (vput (normB l).1.length ++ payD [] (normB l).1):=by
      unfold F.za
      rw [zo (by have:=h2.1; omega),zx n (by omega) _ (by have:=h2.1; omega),za]
      exact zre n (by omega) _ (fun p => some p) (fun p w => rfl) (normB l).1 h2.1 h2.2 (normB l).1 0 n [] _ (by simp) (by have:=h2.1; omega) (by simp) (by omega) (by omega)
    rw [hc,if_pos rfl,show (!((0 : Int) == (0 : Int))) = false from rfl,cond_false,hpay,za]
    generalize hp0 : vput (normB l).1.length ++ payD [] (normB l).1 = p
    by_cases hp : 1048576 < p.length
    · rw [zd (by omega)]
      simp only [if_pos hp]
    · have l2:=zn (n:=p.length) (by omega)
      have lc : ∀ o,(crcB o).length = 4:=fun o => rfl
      rw [ze (by omega)]
      simp only [if_neg hp]
      rw [zo (by omega),zx n (by omega) _ (by omega),za,grow1 (by omega),grow1 (by simp only [List.length_append,List.length_cons,List.length_nil]; omega),Nat.beq_refl,cond_true,
          zqe n (by omega) _ (by simp only [List.length_append,List.length_cons,List.length_nil]; omega) (by simp only [List.length_append,List.length_cons,List.length_nil]; omega),za,
          grow1 (by rw [lc]; simp only [List.length_append,List.length_cons,List.length_nil]; omega),Nat.beq_refl,cond_true]
  · rw [h2,if_neg h1]
    dsimp only
    rw [beq_eq_false_iff_ne.2 h1,Bool.not_false,cond_true]
end Go.AM
set_option linter.unusedVariables false
set_option linter.unusedSimpArgs false
namespace Go.AM
end Go.AM
set_option linter.unusedVariables false
set_option linter.unusedSimpArgs false
namespace Go.AM
theorem zoz (n : Nat) (k : Int) : F.zcb n k = some (wordL k):=by
  unfold F.zcb wordL
  by_cases h1 : k = 1
  · subst h1; rfl
  by_cases h2 : k = 2
  · subst h2; rfl
  by_cases h3 : k = 3
  · subst h3; rfl
  by_cases h4 : k = 4
  · subst h4; rfl
  rw [beq_eq_false_iff_ne.2 h1,beq_eq_false_iff_ne.2 h2,beq_eq_false_iff_ne.2 h3,beq_eq_false_iff_ne.2 h4,if_neg h1,if_neg h2,if_neg h3,if_neg h4]
  rfl
end Go.AM
set_option linter.unusedVariables false
set_option linter.unusedSimpArgs false
namespace Go.AM
abbrev KRS (X : Type):=List UInt8→List UInt8→Int→List (Bool × Int × Int)→Int→List (List UInt8 × List UInt8)→Int→Int→Int→Option X
section
variable {X : Type} (n : Nat) (kr : KRS X)
end
end Go.AM
set_option linter.unusedVariables false
set_option linter.unusedSimpArgs false
namespace Go.AM
def rateL (r : Int) : List UInt8:=if r = 1000000 then [] else [124,64] ++ (rateText r).1
def lineS (m : MetD) : List UInt8:=m.1 ++ [58] ++ valL m.2.2.1 ++ [124] ++ wordL m.2.1 ++ rateL m.2.2.2.1
def sdLineR (m : MetD) : List UInt8 × Int × Unit:=if expM m 1 = 0 then (lineS m,0,()) else ([],expM m 1,())
theorem zd2 {m : MetD} (h : expM m 1 = 0) : ∃ nm k d r,m = (nm,k,[d],r,[],0,()) ∧ nameOK nm = true ∧ 1 ≤ k ∧ k ≤ 4 ∧ decC d = 0 ∧ 1 ≤ r ∧ r ≤ 1000000 ∧ (k = 2→r = 1000000) ∧ (k = 2→d.1 = false):=by
  obtain ⟨nm,k,vs,r,ts,t,_⟩:=m
  unfold expM at h
  rw [if_neg (by omega)] at h
  by_cases h0 : chkM (nm,k,vs,r,ts,t,()) = 0
  · rw [if_pos h0] at h
    have hs : saysS (nm,k,vs,r,ts,t,()) = true:=by
      cases e : saysM (nm,k,vs,r,ts,t,()) 1
      · rw [e] at h; cases h
      · exact e
    obtain ⟨c1,c2,c3,c4,c5,c6⟩:=zax h0
    simp only at c1 c2 c3 c4 c5 c6
    unfold saysS at hs
    simp only [Bool.and_eq_true,Bool.not_eq_true',beq_iff_eq,beq_eq_false_iff_ne,Bool.or_eq_true] at hs
    obtain ⟨hb,ht,hk5,hk2⟩:=hs
    unfold bareM at hb
    simp only [Bool.and_eq_true,decide_eq_true_eq] at hb
    obtain ⟨hv,hg⟩:=hb
    have hg' : ts = []:=List.length_eq_zero_iff.1 hg
    subst hg' ht
    match vs,hv with
    | [d],_ =>
      unfold kindB at c2
      unfold valsB at c3
      unfold rateB at c4
      simp only [Bool.and_eq_true,decide_eq_true_eq,List.all_cons,List.all_nil,Bool.and_true,beq_iff_eq,Bool.or_eq_true,Bool.not_eq_true',beq_eq_false_iff_ne] at c2 c3 c4
      refine ⟨nm,k,d,r,rfl,c1,c2.1,by omega,c3.2.2,c4.1,c4.2.1,fun hk => ?_,fun hk => ?_⟩
      · rcases c4.2.2 with h | h
        · exact absurd hk h
        · exact h
      · rcases hk2 with h | h
        · exact absurd hk h
        · exact h
  · rw [if_neg h0] at h; exact absurd h h0
theorem zuo {k : Int} (h1 : 1 ≤ k) (h2 : k ≤ 4) : wordE k = 0:=by unfold wordE; rw [if_pos (by omega)]
theorem zgl (k : Int) : (wordL k).length ≤ 2:=by
  unfold wordL
  repeat (first | split | decide)
theorem zcz {r : Int} (h1 : 1 ≤ r) (h2 : r ≤ 1000000) : (rateText r).2.1 = 0 ∧ (rateText r).1.length ≤ 8:=by
  by_cases h : r = 1000000
  · subst h; exact ⟨rfl,by decide⟩
  · rw [zd9 ⟨h1,by omega⟩]
    obtain ⟨p1,p2,p3,p4⟩:=zdy (k:=r.toNat) (by omega)
    have:=zez (pad6 r.toNat)
    refine ⟨rfl,?_⟩
    simp only [List.length_cons]
    omega
theorem zrf (n : Nat) (hn : 200000 ≤ n) (m : MetD) (hm : MetOK m) : F.zbk n m = some (sdLineR m):=by
  unfold F.zbk sdLineR
  have he : F.zav n (m.1,m.2.1,m.2.2.1,m.2.2.2.1,m.2.2.2.2.1,m.2.2.2.2.2.1,()) (1 : Int) = some (expM m 1):=zhr n hn m hm 1
  rw [he,za]
  by_cases h0 : expM m 1 = 0
  · rw [if_pos h0]
    obtain ⟨nm,k,d,r,rfl,hnm,k1,k4,hd,r1,r2,hr2,hneg⟩:=zd2 h0
    have hdo : DecLOK d:=hm.2.1.2 d (by simp)
    have hn1:=hm.1
    simp only at hn1
    have ht:=zay hdo hd
    have hw:=zgl k
    obtain ⟨t1,t2⟩:=zcz r1 r2
    have hE:=zuo k1 k4
    have hi : idx [d] (0 : Int) = some d:=rfl
    rw [h0]
    simp only [O.word,za,hE,hi,zdw n hn hdo hd,ze3,t1]
    unfold lineS valL rateL
    simp only [beq_self_eq_true,Bool.not_true,cond_false]
    rw [zd (by rw [zl]; omega),zd (by rw [zl]; simp; omega),zd (by rw [zl]; simp; omega),zd (by rw [zl]; simp; omega)]
    by_cases hr : r = 1000000
    · subst hr; simp
    · rw [beq_eq_false_iff_ne.2 hr,cond_false,if_neg hr,zd (by rw [zl]; simp; omega),zd (by rw [zl]; simp; omega),zd (by rw [zl]; simp; omega)]
      simp
  · rw [beq_eq_false_iff_ne.2 h0,if_neg h0]; rfl
theorem zlq (n : Nat) (hn : 200000 ≤ n) (m : MetD) (hm : MetOK m) (h0 : expM m 1 = 0) : F.zbr n m = some (lineS m):=by
  unfold F.zbr
  obtain ⟨nm,k,d,r,rfl,hnm,k1,k4,hd,r1,r2,hr2,hneg⟩:=zd2 h0
  have hdo : DecLOK d:=hm.2.1.2 d (by simp)
  have hn1:=hm.1
  simp only at hn1
  have ht:=zay hdo hd
  have hw:=zgl k
  obtain ⟨t1,t2⟩:=zcz r1 r2
  have hi : idx [d] (0 : Int) = some d:=rfl
  simp only [hi,za,zcx n hn hdo hd,zoz,ze4 n (by omega) r ⟨r1,r2⟩]
  unfold lineS valL rateL
  rw [zd (by rw [zl]; omega),zd (by rw [zl]; simp; omega),zd (by rw [zl]; simp; omega),zd (by rw [zl]; simp; omega)]
  by_cases hr : r = 1000000
  · subst hr; simp
  · rw [beq_eq_false_iff_ne.2 hr,Bool.not_false,cond_true,if_neg hr,zd (by rw [zl]; simp; omega),zd (by rw [zl]; simp; omega)]
    simp
end Go.AM
set_option linter.unusedVariables false
set_option linter.unusedSimpArgs false
namespace Go.AM
end Go.AM
set_option linter.unusedVariables false
set_option linter.unusedSimpArgs false
namespace Go.AM
section
variable {X : Type} (n : Nat) (kr : KRS X)
end
end Go.AM
set_option linter.unusedVariables false
set_option linter.unusedSimpArgs false
namespace Go.AM
section
variable {X : Type} (kr : KRS X)
end
end Go.AM
set_option linter.unusedVariables false
set_option linter.unusedSimpArgs false
namespace Go.AM
section
variable {X : Type} (n : Nat) (rec : Int→Int→Bool→List UInt8→Int→List DecL→Int→List TagL→Int→Int→Int→List UInt8→Int→List DecL→Int→List TagL→Int→Int→Int→List UInt8→Nat→Nat→Nat→Nat→Option X)
  (k0 kr : List UInt8→Int→List DecL→Int→List TagL→Int→Int→Int→List UInt8→Int→List DecL→Int→List TagL→Int→Int→Int→List UInt8→Nat→Nat→Nat→Nat→Option X)
  (b0 : List UInt8) (b1 : Int) (b2 : List DecL) (b3 : Int) (b4 : List TagL) (b5 b6 b7 : Int) (nm : List UInt8) (kd : Int) (vs : List DecL) (rt : Int) (ts : List TagL) (tm c a : Int) (s : List UInt8) (i0 i1 i2 i3 : Nat)
end
end Go.AM
set_option linter.unusedVariables false
set_option linter.unusedSimpArgs false
namespace Go.AM
def lineG (m : MetD) : List UInt8:=m.1 ++ [32] ++ valL m.2.2.1 ++ [32] ++ Lib.decDigits m.2.2.2.2.2.1.toNat
def lineGR (m : MetD) : List UInt8 × Int × Unit:=if expM m 3 = 0 then (lineG m,0,()) else ([],expM m 3,())
theorem zc0 {m : MetD} (h : expM m 3 = 0) : ∃ nm d t,m = (nm,2,[d],1000000,[],t,()) ∧ nameOK nm = true ∧ decC d = 0 ∧ 1 ≤ t ∧ t ≤ 1099511627776:=by
  obtain ⟨nm,k,vs,r,ts,t,_⟩:=m
  unfold expM at h
  rw [if_neg (by omega)] at h
  by_cases h0 : chkM (nm,k,vs,r,ts,t,()) = 0
  · rw [if_pos h0] at h
    have hs : saysG (nm,k,vs,r,ts,t,()) = true:=by
      cases e : saysM (nm,k,vs,r,ts,t,()) 3
      · rw [e] at h; cases h
      · exact e
    obtain ⟨c1,c2,c3,c4,c5,c6⟩:=zax h0
    simp only at c1 c2 c3 c4 c5 c6
    unfold saysG at hs
    simp only [Bool.and_eq_true,Bool.not_eq_true',beq_iff_eq,beq_eq_false_iff_ne] at hs
    obtain ⟨hb,ht,hk⟩:=hs
    subst hk
    unfold bareM at hb
    simp only [Bool.and_eq_true,decide_eq_true_eq] at hb
    obtain ⟨hv,hg⟩:=hb
    have hg' : ts = []:=List.length_eq_zero_iff.1 hg
    subst hg'
    match vs,hv with
    | [d],_ =>
      unfold valsB at c3
      unfold rateB at c4
      unfold timeB at c6
      simp only [Bool.and_eq_true,decide_eq_true_eq,List.all_cons,List.all_nil,Bool.and_true,beq_iff_eq,Bool.or_eq_true,Bool.not_eq_true',beq_eq_false_iff_ne] at c3 c4 c6
      have hr : r = 1000000:=by
        rcases c4.2.2 with h | h
        · exact absurd rfl h
        · exact h
      subst hr
      exact ⟨nm,d,t,rfl,c1,c3.2.2,by omega,c6.2⟩
  · rw [if_neg h0] at h; exact absurd h h0
theorem zhu {t : Int} (h1 : 1 ≤ t) (h2 : t ≤ 1099511627776) : (Lib.decDigits t.toNat).length ≤ 13:=zey (by omega) (by omega)
theorem zup (n : Nat) (hn : 200000 ≤ n) (m : MetD) (hm : MetOK m) : F.zba n m = some (lineGR m):=by
  unfold F.zba lineGR
  have he : F.zav n (m.1,m.2.1,m.2.2.1,m.2.2.2.1,m.2.2.2.2.1,m.2.2.2.2.2.1,()) (3 : Int) = some (expM m 3):=zhr n hn m hm 3
  rw [he,za]
  by_cases h0 : expM m 3 = 0
  · rw [if_pos h0]
    obtain ⟨nm,d,t,rfl,hnm,hd,t1,t2⟩:=zc0 h0
    have hdo : DecLOK d:=hm.2.1.2 d (by simp)
    have hn1:=hm.1
    simp only at hn1
    have ht:=zay hdo hd
    have hi : idx [d] (0 : Int) = some d:=rfl
    have hnt : numText t = (Lib.decDigits t.toNat,0,()):=by unfold numText; rw [if_neg (by omega)]
    have hl:=zhu t1 t2
    rw [h0]
    simp only [za,hi,zdw n hn hdo hd,zli n t (by omega),hnt]
    unfold lineG valL
    simp only [beq_self_eq_true,Bool.not_true,cond_false]
    rw [zd (by rw [zl]; omega),zd (by rw [zl]; simp; omega),zd (by rw [zl]; simp; omega),zd (by rw [zl]; simp; omega)]
  · rw [beq_eq_false_iff_ne.2 h0,if_neg h0]; rfl
theorem zml (n : Nat) (hn : 200000 ≤ n) (m : MetD) (hm : MetOK m) (h0 : expM m 3 = 0) : F.zbs n m = some (lineG m):=by
  unfold F.zbs F.za5
  obtain ⟨nm,d,t,rfl,hnm,hd,t1,t2⟩:=zc0 h0
  have hdo : DecLOK d:=hm.2.1.2 d (by simp)
  have hn1:=hm.1
  simp only at hn1
  have ht:=zay hdo hd
  have hi : idx [d] (0 : Int) = some d:=rfl
  have hl:=zhu t1 t2
  have hdg : F.zae n (IntKind.wrap .u64 t) = some (Lib.decDigits t.toNat):=by
    rw [IntWalk.u64_in _ (by omega)]
    have:=zdx n (by omega) t.toNat (by omega)
    rw [show ((t.toNat : Nat) : Int) = t from by omega] at this
    exact this
  simp only [hi,za,zcx n hn hdo hd,hdg]
  unfold lineG valL
  rw [zd (by rw [zl]; omega),zd (by rw [zl]; simp; omega),zd (by rw [zl]; simp; omega),zd (by rw [zl]; simp; omega)]
theorem zuq {m : MetD} (hm : MetOK m) (h : expM m 3 = 0) (hl : m.1.length ≤ 300) : (lineG m).length ≤ 400:=by
  obtain ⟨nm,d,t,rfl,hnm,hd,t1,t2⟩:=zc0 h
  have hdo : DecLOK d:=hm.2.1.2 d (by simp)
  have h1:=zay hdo hd
  have h2:=zhu t1 t2
  have h5 : valL [d] = textD d.1 d.2.1.toNat d.2.2:=rfl
  simp only at hl
  unfold lineG
  simp only [h5]
  simp
  omega
end Go.AM
set_option linter.unusedVariables false
set_option linter.unusedSimpArgs false
namespace Go.AM
def fmtB (f : Int) : Bool:=decide (1 ≤ f) && decide (f ≤ 3)
theorem zar {f : Int} (h : fmtB f = true) : f = 1 ∨ f = 2 ∨ f = 3:=by
  unfold fmtB at h
  simp only [Bool.and_eq_true,decide_eq_true_eq] at h
  omega
theorem zur (n : Nat) (f : Int) : F.zcl n f = some (fmtB f):=by
  unfold F.zcl fmtB
  by_cases h : 1 ≤ f
  · rw [zd (by omega),decide_eq_true h]; rfl
  · rw [ze (by omega),decide_eq_false h]; rfl
end Go.AM
set_option linter.unusedVariables false
set_option linter.unusedSimpArgs false
namespace Go.AM
end Go.AM
set_option linter.unusedVariables false
set_option linter.unusedSimpArgs false
namespace Go.AM
end Go.AM
set_option linter.unusedVariables false
set_option linter.unusedSimpArgs false
namespace Go.AM
def lineF (m : MetD) (f : Int) : List UInt8:=if f = 1 then lineS m else if f = 2 then lineD m else lineG m
def lineT (m : MetD) (f : Int) : List UInt8 × Int × Unit:=
  if fmtB f = false then ([],29,())
  else if (normM m).2.1 ≠ 0 then ([],(normM m).2.1,())
  else if expM (normM m).1 f ≠ 0 then ([],expM (normM m).1 f,())
  else (lineF (normM m).1 f,0,())
theorem zus (n : Nat) (hn : 200000 ≤ n) {m : MetD} (hR : RightM m) (hs : StrictT m.2.2.2.2.1) {f : Int} (h0 : expM m f = 0) :
    (f = 1→F.zbk n m = some (lineF m f,0,())) ∧ (f = 2→F.zk n m = some (lineF m f,0,())) ∧ (f = 3→F.zba n m = some (lineF m f,0,())):=by
  refine ⟨fun e => ?_,fun e => ?_,fun e => ?_⟩
  · subst e; rw [zrf n hn m hR.ok]; unfold sdLineR; rw [if_pos h0]; rfl
  · subst e; rw [zor n hn hR hs]; rfl
  · subst e; rw [zup n hn m hR.ok]; unfold lineGR; rw [if_pos h0]; rfl
theorem zmm (n : Nat) (hn : 200000 ≤ n) (m : MetD) (hm : MetOK m) (f : Int) : F.zb3 n m f = some (lineT m f):=by
  unfold F.zb3 lineT
  have hN : F.zl n (m.1,m.2.1,m.2.2.1,m.2.2.2.1,m.2.2.2.2.1,m.2.2.2.2.2.1,()) = some (normM m):=zce n hn m hm
  rw [hN]
  cases hf : fmtB f
  · have h1 : f ≠ 1:=fun e => by rw [e] at hf; cases hf
    have h2 : f ≠ 2:=fun e => by rw [e] at hf; cases hf
    have h3 : f ≠ 3:=fun e => by rw [e] at hf; cases hf
    rw [beq_eq_false_iff_ne.2 h1,beq_eq_false_iff_ne.2 h2,beq_eq_false_iff_ne.2 h3,if_pos rfl]
    rfl
  · rw [if_neg (by simp)]
    rcases zcy hm with ⟨hq,hR⟩ | ⟨e,he,hq⟩
    · have hs : StrictT (formM m).2.2.2.2.1:=zbn _
      rw [hq]
      generalize formM m = q at hR hs ⊢
      have hE : F.zav n (q.1,q.2.1,q.2.2.1,q.2.2.2.1,q.2.2.2.2.1,q.2.2.2.2.2.1,()) f = some (expM q f):=zhr n hn q hR.ok f
      dsimp only
      simp only [za,beq_self_eq_true,Bool.not_true,cond_false,hE,ne_eq,not_true_eq_false,if_false]
      by_cases h0 : expM q f = 0
      · obtain ⟨l1,l2,l3⟩:=zus n hn hR hs h0
        rw [if_neg (by simp [h0]),h0]
        rcases zar hf with rfl | rfl | rfl
        · have:=l1 rfl
          rw [beq_self_eq_true,cond_true,beq_self_eq_true,Bool.not_true,cond_false]
          exact (congrArg (Option.bind · _) this).trans rfl
        · have:=l2 rfl
          rw [show ((2 : Int) == 1) = false from rfl,cond_false,beq_self_eq_true,cond_true,beq_self_eq_true,Bool.not_true,cond_false]
          exact (congrArg (Option.bind · _) this).trans rfl
        · have:=l3 rfl
          rw [show ((3 : Int) == 1) = false from rfl,show ((3 : Int) == 2) = false from rfl,cond_false,cond_false,beq_self_eq_true,cond_true,beq_self_eq_true,Bool.not_true,cond_false]
          exact (congrArg (Option.bind · _) this).trans rfl
      · rw [if_pos h0,beq_eq_false_iff_ne.2 h0]
        rcases zar hf with rfl | rfl | rfl <;> rfl
    · rw [hq]
      dsimp only
      rw [if_pos he]
      simp only [za,beq_eq_false_iff_ne.2 he]
      rcases zar hf with rfl | rfl | rfl <;> rfl
theorem zhv (n : Nat) (hn : 200000 ≤ n) {m : MetD} (hR : RightM m) {f : Int} (hf : fmtB f = true) (h0 : expM m f = 0) : F.zbt n m f = some (lineF m f):=by
  unfold F.zbt lineF
  rcases zar hf with rfl | rfl | rfl
  · have h : F.zbr n (m.1,m.2.1,m.2.2.1,m.2.2.2.1,m.2.2.2.2.1,m.2.2.2.2.2.1,()) = some (lineS m):=zlq n hn m hR.ok h0
    rw [beq_self_eq_true,cond_true,h,if_pos rfl]; rfl
  · have h : F.zak n (m.1,m.2.1,m.2.2.1,m.2.2.2.1,m.2.2.2.2.1,m.2.2.2.2.2.1,()) = some (lineD m):=zub n hn m hR
    rw [show ((2 : Int) == 1) = false from rfl,cond_false,beq_self_eq_true,cond_true,h,if_neg (by decide),if_pos rfl]; rfl
  · have h : F.zbs n (m.1,m.2.1,m.2.2.1,m.2.2.2.1,m.2.2.2.2.1,m.2.2.2.2.2.1,()) = some (lineG m):=zml n hn m hR.ok h0
    rw [show ((3 : Int) == 1) = false from rfl,show ((3 : Int) == 2) = false from rfl,cond_false,cond_false,h,if_neg (by decide),if_neg (by decide)]; rfl
end Go.AM
set_option linter.unusedVariables false
set_option linter.unusedSimpArgs false
namespace Go.AM
theorem zmn {m : MetD} (hR : RightM m) (hs : StrictT m.2.2.2.2.1) {f : Int} (hf : fmtB f = true) (h0 : expM m f = 0) : lineT m f = (lineF m f,0,()):=by
  unfold lineT
  rw [if_neg (by simp [hf]),zlm hR hs,if_neg (by simp),if_neg (by simp [h0])]
theorem zrg {m : MetD} (hR : RightM m) (hs : StrictT m.2.2.2.2.1) {f : Int} (hf : fmtB f = true) (h0 : expM m f = 0) : (lineF m f).length ≤ 8192:=by
  have hi:=hR.inv hs
  have hnm:=(zbk hi.nm).2
  unfold lineF
  rcases zar hf with rfl | rfl | rfl
  · obtain ⟨nm,k,d,r,rfl,_,h1,h4,hd,hr1,hr2,_⟩:=zd2 h0
    rw [if_pos rfl]
    have hv:=zay ((zbo hR).1 d (by simp)).1 hd
    have hw:=zgl k
    have hr:=(zcz hr1 hr2).2
    unfold lineS rateL valL
    dsimp only at hnm ⊢
    split <;> simp only [List.length_append,List.length_cons,List.length_nil] <;> omega
  · rw [if_neg (by decide),if_pos rfl]
    exact zuj hi
  · rw [if_neg (by decide),if_neg (by decide)]
    have:=zuq hR.ok h0 (by omega)
    omega
abbrev LinR:=List (List UInt8) × Int × Int × Unit
def linesB (l : List MetL) (f : Int) : LinR:=
  if fmtB f = false then ([],0,29,()) else if (normB l).2.2.1 = 0 then (if (expB (normB l).1 f).2.1 = 0 then ((normB l).1.map fun m => lineF (opM m) f,0,0,()) else ([],(expB (normB l).1 f).1,(expB (normB l).1 f).2.1,())) else ([],(normB l).2.1,(normB l).2.2.1,())
theorem zo0 (n : Nat) (hn : 200000 ≤ n) (f : Int) (hf : fmtB f = true) (k0 : List (List UInt8)→Nat→Option LinR) (kr : List (List UInt8)→Int→Int→Nat→Option LinR) (h0 : ∀ a k,k0 a k = some (a,0,0,())) (l : List MetL) (hR : RightB l) (he : ∀ m ∈ l,expM (opM m) f = 0) :
    ∀ (r : List MetL) (i m : Nat) (out : List (List UInt8)),l.drop i = r→out.length = i→r.length < m→F.zy.L12 n k0 kr m f out l (l.length : Int) (i : Int) out.length = some (out ++ r.map fun m => lineF (opM m) f,0,0,()):=by
  have hl:=hR.1
  intro r
  induction r with
  | nil =>
    intro i m out hi ho hm
    have:=zj hi
    obtain ⟨m,rfl⟩ : ∃ q,m = q + 1:=⟨m - 1,by omega⟩
    rw [F.zy.L12]
    unfold F.zy.L12.step
    dsimp only
    rw [ze (by omega),h0]
    simp
  | cons x r ih =>
    intro i m out hi ho hm
    obtain ⟨g1,g2,g3⟩:=zi hi
    obtain ⟨m,rfl⟩ : ∃ q,m = q + 1:=⟨m - 1,by omega⟩
    have hx:=List.mem_of_getElem? g2
    obtain ⟨x1,x2⟩:=hR.2 x hx
    have hN : F.zb3 n (x.1,x.2.1,x.2.2.1,x.2.2.2.1,x.2.2.2.2.1,x.2.2.2.2.2,()) f = some (lineF (opM x) f,0,()):=by
      rw [← zmn x1 x2 hf (he x hx)]
      exact zmm n hn (opM x) x1.ok f
    rw [F.zy.L12]
    unfold F.zy.L12.step
    dsimp only
    rw [zd (by omega),zk,g2,za,hN,za,beq_self_eq_true,Bool.not_true,cond_false,growL (by omega),Nat.beq_refl,cond_true,zh (by omega),ih (i + 1) m _ g3 (by simp [ho]) (by simp at hm; omega)]
    simp
theorem bound16 {k : Nat} (h : k ≤ 1000) {X : Type} (y : Option X) : (bif decide True && (decide ((0 : Int) ≤ (k : Int)) && decide ((16 : Int) * (k : Int) ≤ 281474976710656) && decide ((k : Int) ≤ 281474976710656)) && true then y else none) = y:=by
  rw [decide_eq_true (by omega : (0 : Int) ≤ (k : Int)),decide_eq_true (by omega : (16 : Int) * (k : Int) ≤ 281474976710656),decide_eq_true (by omega : (k : Int) ≤ 281474976710656)]; rfl
theorem ze9 (n : Nat) (hn : 200000 ≤ n) (l : List MetL) (hok : BatOK l) (f : Int) : F.zy n l f = some (linesB l f):=by
  unfold F.zy linesB
  rw [ze5 n hn l hok]
  cases hf : fmtB f
  · have h1 : f ≠ 1:=fun e => by rw [e] at hf; cases hf
    have h2 : f ≠ 2:=fun e => by rw [e] at hf; cases hf
    have h3 : f ≠ 3:=fun e => by rw [e] at hf; cases hf
    rw [beq_eq_false_iff_ne.2 h1,beq_eq_false_iff_ne.2 h2,beq_eq_false_iff_ne.2 h3,if_pos rfl]
    rfl
  · rw [if_neg (by simp)]
    simp only [za]
    rcases za1 hok with ⟨h2,hR,-,-⟩ | ⟨i,e,he,h⟩
    · generalize hq : normB l = q at h2 hR
      obtain ⟨q,q2⟩:=q
      dsimp only at h2 hR
      subst h2
      rw [zxh n hn q hR.ok]
      simp only [za,beq_self_eq_true,Bool.not_true,cond_false,if_true]
      by_cases h0 : (expB q f).2.1 = 0
      · obtain ⟨-,hx⟩:=ze6 hR h0
        rw [if_pos h0,h0,beq_self_eq_true,Bool.not_true,cond_false,bound16 hR.1]
        have L:=zo0 n hn f hf (fun a k => some (a,0,0,())) (fun a b c d => some (a,b,c,())) (fun _ _ => rfl) q hR hx q 0 n [] rfl rfl (by have:=hR.1; omega)
        rcases zar hf with rfl | rfl | rfl <;> exact L
      · rw [if_neg h0,beq_eq_false_iff_ne.2 h0]
        rcases zar hf with rfl | rfl | rfl <;> rfl
    · rw [h]
      dsimp only
      rw [if_neg he,beq_eq_false_iff_ne.2 he]
      rcases zar hf with rfl | rfl | rfl <;> rfl
theorem zfa {l : List MetL} (hok : BatOK l) (f : Int) : ((linesB l f).2 = (0,0,()) ∧ fmtB f = true ∧ (normB l).2 = (0,0,()) ∧ RightB (normB l).1 ∧ (∀ m ∈ (normB l).1,expM (opM m) f = 0) ∧ (linesB l f).1 = (normB l).1.map fun m => lineF (opM m) f) ∨ (∃ i e : Int,e ≠ 0 ∧ linesB l f = ([],i,e,())):=by
  unfold linesB
  cases hf : fmtB f
  · rw [if_pos rfl]; exact Or.inr ⟨0,29,by decide,rfl⟩
  · rw [if_neg (by simp)]
    rcases za1 hok with ⟨h2,hR,-,-⟩ | ⟨i,e,he,h⟩
    · rw [if_pos (by rw [h2])]
      by_cases h0 : (expB (normB l).1 f).2.1 = 0
      · rw [if_pos h0]
        exact Or.inl ⟨rfl,rfl,h2,hR,(ze6 hR h0).2,rfl⟩
      · rw [if_neg h0]
        exact Or.inr ⟨_,_,h0,rfl⟩
    · rw [h,if_neg he]
      exact Or.inr ⟨i,e,he,rfl⟩
theorem zg9 {l : List MetL} (hok : BatOK l) (f : Int) : (linesB l f).1.length ≤ 1000 ∧ ∀ s ∈ (linesB l f).1,s.length ≤ 8192:=by
  rcases zfa hok f with ⟨-,hf,-,hR,he,h⟩ | ⟨i,e,-,h⟩
  · rw [h]
    refine ⟨by rw [List.length_map]; exact hR.1,fun s hs => ?_⟩
    obtain ⟨m,hm,rfl⟩:=List.mem_map.1 hs
    exact zrg (hR.2 m hm).1 (hR.2 m hm).2 hf (he m hm)
  · rw [h]; exact ⟨by simp,fun s hs => by cases hs⟩
theorem zmo (n : Nat) (hn : 200000 ≤ n) (f : Int) (hf : fmtB f = true) (k0 : List (List UInt8)→Nat→Option LinR) (h0 : ∀ a k,k0 a k = some (a,0,0,())) (l : List MetL) (hR : RightB l) (he : ∀ m ∈ l,expM (opM m) f = 0) :
    ∀ (r : List MetL) (i m : Nat) (out : List (List UInt8)),l.drop i = r→out.length = i→r.length < m→F.zab.L10 n k0 m f l out (i : Int) out.length = some (out ++ r.map fun m => lineF (opM m) f,0,0,()):=by
  have hl:=hR.1
  intro r
  induction r with
  | nil =>
    intro i m out hi ho hm
    have:=zj hi
    obtain ⟨m,rfl⟩ : ∃ q,m = q + 1:=⟨m - 1,by omega⟩
    rw [F.zab.L10]
    unfold F.zab.L10.step
    dsimp only
    rw [ze (by omega),h0]
    simp
  | cons x r ih =>
    intro i m out hi ho hm
    obtain ⟨g1,g2,g3⟩:=zi hi
    obtain ⟨m,rfl⟩ : ∃ q,m = q + 1:=⟨m - 1,by omega⟩
    have hx:=List.mem_of_getElem? g2
    have hN : F.zbt n (x.1,x.2.1,x.2.2.1,x.2.2.2.1,x.2.2.2.2.1,x.2.2.2.2.2,()) f = some (lineF (opM x) f):=zhv n hn (hR.2 x hx).1 hf (he x hx)
    rw [F.zab.L10]
    unfold F.zab.L10.step
    dsimp only
    rw [zd (by omega),zk,g2,za,hN,za,growL (by omega),Nat.beq_refl,cond_true,zh (by omega),ih (i + 1) m _ g3 (by simp [ho]) (by simp at hm; omega)]
    simp
theorem zfy (n : Nat) (hn : 200000 ≤ n) (l : List MetL) (hok : BatOK l) (f : Int) : F.zab n l f = some (linesB l f):=by
  unfold F.zab linesB
  rw [zea n hn l hok,zur,za]
  cases hf : fmtB f
  · rw [if_pos rfl]; rfl
  · rw [if_neg (by simp),Bool.not_true,cond_false,za]
    rcases za1 hok with ⟨h2,hR,-,-⟩ | ⟨i,e,he,h⟩
    · generalize hq : normB l = q at h2 hR
      obtain ⟨q,q2⟩:=q
      dsimp only at h2 hR
      subst h2
      rw [zud n hn q hR.ok]
      simp only [za,beq_self_eq_true,cond_true,if_true]
      by_cases h0 : (expB q f).2.1 = 0
      · obtain ⟨-,hx⟩:=ze6 hR h0
        rw [if_pos h0,h0,beq_self_eq_true,Bool.not_true,cond_false]
        exact zmo n hn f hf (fun a k => some (a,0,0,())) (fun _ _ => rfl) q hR hx q 0 n [] rfl rfl (by have:=hR.1; omega)
      · rw [if_neg h0,beq_eq_false_iff_ne.2 h0]
        rfl
    · rw [h]
      dsimp only
      rw [if_neg he,beq_eq_false_iff_ne.2 he]
      rfl
theorem zd3 {l : List MetL} (h : l.length ≤ 40) (hok : BatOK l) (f : Int) : (linesB l f).1.length ≤ 40:=by
  rcases zfa hok f with ⟨-,-,-,-,-,h1⟩ | ⟨i,e,-,h1⟩
  · rw [h1,List.length_map]
    rcases za1 hok with ⟨-,-,h3,-⟩ | ⟨i,e,-,h3⟩
    · rw [h3,List.length_map]; exact h
    · rw [h3]; exact Nat.zero_le _
  · rw [h1]; exact Nat.zero_le _
end Go.AM
set_option linter.unusedVariables false
set_option linter.unusedSimpArgs false
namespace Go.AM
def small100G (s : List UInt8) : Bool:=decide (s.length ≤ 9000)
def few20G (l : List (List UInt8)) : Bool:=decide (l.length ≤ 40) && l.all small100G
def badG (mtu : Int) : Nat→List (List UInt8)→Option (Nat × Int)
  | _,[] => none
  | k,s :: l => if 10 ∈ s then some (k,14) else if (s.length : Int) + 1 > mtu then some (k,27) else badG mtu (k + 1) l
def gramsG (mtu : Int) : List UInt8→List (List UInt8)→List (List UInt8)
  | cur,[] => if cur = [] then [] else [cur]
  | cur,s :: l => if (cur.length : Int) + s.length + 1 > mtu then cur :: gramsG mtu (s ++ [10]) l else gramsG mtu (cur ++ s ++ [10]) l
theorem za2 (mtu : Int) (cur s : List UInt8) (l : List (List UInt8)) : gramsG mtu cur (s :: l) = if (cur.length : Int) + s.length + 1 > mtu then cur :: gramsG mtu (s ++ [10]) l else gramsG mtu (cur ++ s ++ [10]) l:=rfl
def linesOfG (l : List (List UInt8)) (mtu : Int) : List (List UInt8) × Int × Int × Unit:=
  if mtu < 1 ∨ 65536 < mtu then ([],0,10,()) else match badG mtu 0 l with
    | some (k,e) => ([],(k : Int),e,())
    | none => (gramsG mtu [] l,0,0,())
theorem znq (n : Nat) (mtu : Int) : F.zb0 n mtu = some (decide (1 ≤ mtu ∧ mtu ≤ 65536)):=by
  unfold F.zb0
  by_cases h : 1 ≤ mtu
  · rw [zd (by omega)]; simp [h]
  · rw [ze (by omega)]; simp [h]
theorem zlr (n : Nat) (s : List UInt8) : F.za9 n s [10] = some (decide (10 ∈ s)):=by
  unfold F.za9 F.zby O.index1
  simp only [za]
  congr 1
  have:=zko (l:=s) (c:=10)
  by_cases h : 10 ∈ s
  · simp [h,this.2 h]
  · simp only [h,decide_false,decide_eq_false_iff_not]
    intro h2
    exact h (this.1 h2)
theorem zrh (n : Nat) (X : Type) (k0 : List (List UInt8)→Int→Option X) (kr : List (List UInt8)→Int→Int→Nat→Option X) (l : List (List UInt8)) (mtu : Int) (hl : few20G l = true) : ∀ (r : List (List UInt8)) (k m : Nat),l.drop k = r→r.length < m →
    F.zj.L4 n k0 kr m l mtu l (l.length : Int) k = match badG mtu k r with
      | some (j,e) => kr [] (j : Int) e 0
      | none => k0 l mtu:=by
  simp only [few20G,Bool.and_eq_true,decide_eq_true_eq,List.all_eq_true,small100G] at hl
  intro r
  induction r with
  | nil =>
    intro k m hk hm
    have:=zj hk
    cases m with
    | zero => simp at hm
    | succ m =>
      show F.zj.L4.step n _ k0 kr l mtu l _ k = _
      unfold F.zj.L4.step
      rw [ze (by omega)]
      rfl
  | cons x r ih =>
    intro k m hk hm
    obtain ⟨h1,h2,h3⟩:=zi hk
    have hx : x.length ≤ 9000:=hl.2 x (List.mem_of_getElem? h2)
    cases m with
    | zero => simp at hm
    | succ m =>
      show F.zj.L4.step n (F.zj.L4 n k0 kr m) k0 kr l mtu l _ k = _
      unfold F.zj.L4.step
      rw [zd (by omega),zk,h2,za,zlr,za,zq (by omega)]
      unfold badG
      by_cases h10 : 10 ∈ x
      · simp [h10]
      · simp only [h10,decide_false,cond_false,if_false]
        by_cases hf : (x.length : Int) + 1 > mtu
        · rw [zd hf,if_pos hf]
        · rw [ze hf,if_neg hf,zh (by omega),ih (k + 1) m h3 (by simp at hm; omega)]
theorem zcg {l : List (List UInt8)} (h : ∀ s ∈ l,s.length ≤ 9000) : (feeds l).length ≤ 9001 * l.length:=by
  induction l with
  | nil => simp [feeds]
  | cons x l ih =>
    have h1:=h x (by simp)
    have h2:=ih (fun s hs => h s (by simp [hs]))
    simp only [feeds,List.length_append,List.length_cons,List.length_nil]
    omega
theorem zmp (n : Nat) (X : Type) (k0 : List UInt8→Int→Int→List (List UInt8)→Int→List (List UInt8)→Nat→Nat→Option X) (l : List (List UInt8)) (mtu : Int) (t : List UInt8) (q : Nat) (hl : l.length ≤ 40) (hs : ∀ s ∈ l,s.length ≤ 9000) :
    ∀ (r : List (List UInt8)) (k m a : Nat) (out : List (List UInt8)),l.drop k = r→k ≤ l.length→r.length < m→a ≤ (feeds (l.take k)).length→out.length ≤ k →
    ∃ (a' : Nat) (out' : List (List UInt8)),a' ≤ (feeds l).length ∧ out'.length ≤ l.length ∧ F.zj.L3_split_datagrams_1 n k0 m (feeds l ++ t) (a : Int) ((feeds (l.take k)).length : Int) l (l.length : Int) (k : Int) l mtu out q out.length = k0 (feeds l ++ t) (a' : Int) ((feeds l).length : Int) l mtu out' q out'.length ∧
      out ++ gramsG mtu ((feeds (l.take k)).drop a) r = out' ++ (if (feeds l).drop a' = [] then [] else [(feeds l).drop a']):=by
  intro r
  induction r with
  | nil =>
    intro k m a out hk hkl hm ha ho
    have hk':=zj hk
    have e : l.take k = l:=List.take_of_length_le hk'
    cases m with
    | zero => simp at hm
    | succ m =>
      refine ⟨a,out,by rw [e] at ha; exact ha,by omega,?_,by rw [e]; rfl⟩
      · show F.zj.L3_split_datagrams_1.step n _ k0 _ _ _ _ _ _ _ _ _ _ _ = _
        unfold F.zj.L3_split_datagrams_1.step
        rw [ze (by omega),e]
  | cons x r ih =>
    intro k m a out hk hkl hm ha ho
    obtain ⟨h1,h2,h3⟩:=zi hk
    have hx : x.length ≤ 9000:=hs x (List.mem_of_getElem? h2)
    have htk : l.take (k + 1) = l.take k ++ [x]:=by rw [List.take_add_one,h2]; rfl
    have hfk : feeds (l.take (k + 1)) = feeds (l.take k) ++ (x ++ [10]):=by rw [htk,zew]; simp [feeds]
    have hfl : (feeds (l.take k)).length ≤ 9001 * k:=by
      have:=zcg (l:=l.take k) (fun s hs' => hs s (List.mem_of_mem_take hs'))
      simp only [List.length_take] at this
      omega
    have hpre : ∃ t',feeds l = feeds (l.take k) ++ t':=⟨feeds (l.drop k),by rw [← zew,List.take_append_drop]⟩
    obtain ⟨t',ht'⟩:=hpre
    have hlen : ((feeds (l.take (k + 1))).length : Int) = (feeds (l.take k)).length + x.length + 1:=by rw [hfk]; simp; omega
    generalize hp : feeds (l.take k) = p at *
    cases m with
    | zero => simp at hm
    | succ m =>
      have hw : IntKind.wrap .i64 ((IntKind.wrap .i64 ((p.length : Int) + (x.length : Int))) + (1 : Int)) = ((feeds (l.take (k + 1))).length : Int):=by
        rw [zq (x:=(p.length : Int) + (x.length : Int)) (by omega),zq (by omega),hlen]
      have step : F.zj.L3_split_datagrams_1 n k0 (m + 1) (feeds l ++ t) (a : Int) (p.length : Int) l (l.length : Int) (k : Int) l mtu out q out.length =
          if (p.length : Int) + x.length + 1 - a > mtu then F.zj.L3_split_datagrams_1 n k0 m (feeds l ++ t) (p.length : Int) ((feeds (l.take (k + 1))).length : Int) l (l.length : Int) ((k + 1 : Nat) : Int) l mtu (out ++ [p.drop a]) q (out ++ [p.drop a]).length
          else F.zj.L3_split_datagrams_1 n k0 m (feeds l ++ t) (a : Int) ((feeds (l.take (k + 1))).length : Int) l (l.length : Int) ((k + 1 : Nat) : Int) l mtu out q out.length:=by
        show F.zj.L3_split_datagrams_1.step n (F.zj.L3_split_datagrams_1 n k0 m) k0 _ _ _ _ _ _ _ _ _ _ _ = _
        unfold F.zj.L3_split_datagrams_1.step
        rw [zd (by omega),zk,h2,za,hw,hlen,zq (by omega),zh (by omega),bdec]
        by_cases hc : (p.length : Int) + x.length + 1 - a > mtu
        · rw [if_pos hc,if_pos hc,zai _ _ _ ha (by rw [ht']; simp)]
          have e2 : ((feeds l ++ t).take p.length).drop a = p.drop a:=by rw [ht']; simp
          rw [e2]
          have e3 : (decide ((out.length + 1) * 24 ≤ 2 ^ 46) && decide (0 < 24 ∧ 24 ≤ 2 ^ 20)) = true:=by simp; omega
          have e4 : Nat.beq out.length out.length = true:=Nat.beq_refl _
          simp only [za,e3,e4,cond_true,beq_self_eq_true]
        · rw [if_neg hc,if_neg hc]
      rw [step]
      by_cases hc : (p.length : Int) + x.length + 1 - a > mtu
      · rw [if_pos hc]
        obtain ⟨a',out',q1,q2,q3,q4⟩:=ih (k + 1) m p.length (out ++ [p.drop a]) h3 (by omega) (by simp at hm; omega) (by rw [hfk]; simp) (by simp; omega)
        refine ⟨a',out',q1,q2,q3,?_⟩
        rw [← q4,hfk]
        rw [za2,if_pos (by rw [List.length_drop]; omega)]
        simp
      · rw [if_neg hc]
        obtain ⟨a',out',q1,q2,q3,q4⟩:=ih (k + 1) m a out h3 (by omega) (by simp at hm; omega) (by rw [hfk]; simp; omega) (by omega)
        refine ⟨a',out',q1,q2,q3,?_⟩
        rw [← q4,hfk]
        rw [za2,if_neg (by rw [List.length_drop]; omega),List.drop_append_of_le_length ha]
        simp
theorem join40G {l : List (List UInt8)} (hl : l.length ≤ 40) (hs : ∀ s ∈ l,s.length ≤ 9000) : (Lib.join l [10]).length ≤ 400000:=by
  by_cases h : l = []
  · subst h; simp [Lib.join]
  · have h1:=congrArg List.length (zkp l h)
    have h2:=zcg hs
    simp at h1
    omega
theorem zfb (n : Nat) (hn : 20000 ≤ n) (l : List (List UInt8)) (mtu : Int) (hf : few20G l = true) : F.zj n l mtu = some (linesOfG l mtu):=by
  have hf':=hf
  simp only [few20G,Bool.and_eq_true,decide_eq_true_eq,List.all_eq_true,small100G] at hf'
  obtain ⟨hl,hs⟩:=hf'
  unfold F.zj linesOfG
  rw [znq,za]
  by_cases hm : 1 ≤ mtu ∧ mtu ≤ 65536
  · rw [if_neg (by omega)]
    simp only [hm,decide_true,Bool.not_true,cond_false,and_self]
    refine (zrh n _ _ _ l mtu hf l 0 n rfl (by omega)).trans ?_
    split
    · rfl
    · have hj := join40G hl hs
      have e1 : O.join n l [10] = some (Lib.join l [10]):=by
        unfold O.join
        have : (Nat.ble l.length big47 && Nat.ble (Lib.join l [10]).length big47) = true:=by
          simp only [Bool.and_eq_true,nble,big47]; omega
        rw [this]; rfl
      rw [e1,za,zd (by rw [zl]; omega)]
      obtain ⟨t,ht,ht0⟩ : ∃ t,Lib.join l [10] ++ [10] = feeds l ++ t ∧ (l ≠ []→t = []):=by
        by_cases h : l = []
        · subst h; exact ⟨[10],rfl,fun h => absurd rfl h⟩
        · exact ⟨[],by rw [zkp l h]; simp,fun _ => rfl⟩
      rw [ht]
      obtain ⟨a', out', q1, q2,q3,q4⟩:=zmp n _ (fun e8_4 e8_5 e8_6 e8_b0_0 e8_b1_0 e8_b2_0 e8_k0 e8_k1 =>
                  bif decide (e8_6 > e8_5) then
                    bif e8_6 == e8_6 then
                      (sub e8_4 e8_5 e8_6).bind fun x9 =>
                        bif decide ((e8_b2_0.length + 1) * 24 ≤ 2 ^ 46) && decide (0 < 24 ∧ 24 ≤ 2 ^ 20) then
                          bif Nat.beq e8_k1 e8_b2_0.length then
                            some ((e8_b2_0 ++ ([x9]),(0 : Int),(0 : Int),()))
                          else
                            none
                        else
                          none
                    else
                      none
                  else
                    some ((e8_b2_0,(0 : Int),(0 : Int),()))) l mtu t ((feeds l ++ t).length) hl hs l 0 n 0 [] rfl (by omega) (by omega) (by simp) (by simp)
      refine q3.trans ?_
      simp only [List.nil_append,List.take_zero,feeds,List.drop_nil] at q4
      rw [q4]
      by_cases hc : (feeds l).drop a' = []
      · have : (feeds l).length ≤ a':=by simpa using hc
        rw [ze (by omega),if_pos hc]
        simp
      · have : ¬ (feeds l).length ≤ a':=by simpa using hc
        rw [zd (by omega),if_neg hc]
        have e3 : (decide ((out'.length + 1) * 24 ≤ 2 ^ 46) && decide (0 < 24 ∧ 24 ≤ 2 ^ 20)) = true:=by simp; omega
        have e4 : Nat.beq out'.length out'.length = true:=Nat.beq_refl _
        rw [zai _ _ _ q1 (by simp),za,e3,e4]
        simp
  · rw [if_pos (by omega)]
    simp [hm]
theorem zo1 (n : Nat) (X : Type) (k0 : Unit→Option X) (kr : Bool→Option X) (a b : List (List UInt8)) (he : a.length = b.length) (hb : a.length < 4611686018427387904) : ∀ (r : List (List UInt8)) (k m : Nat),a.drop k = r→r.length < m →
    F.zaf.L4 n k0 kr m a b (k : Int) = if r = b.drop k then k0 () else kr false:=by
  intro r
  induction r with
  | nil =>
    intro k m hk hm
    have:=zj hk
    cases m with
    | zero => simp at hm
    | succ m =>
      show F.zaf.L4.step n _ k0 kr a b k = _
      unfold F.zaf.L4.step
      rw [ze (by omega),if_pos (by symm; simp; omega)]
  | cons x r ih =>
    intro k m hk hm
    obtain ⟨h1,h2,h3⟩:=zi hk
    have hkb : k < b.length:=by omega
    cases m with
    | zero => simp at hm
    | succ m =>
      show F.zaf.L4.step n (F.zaf.L4 n k0 kr m) k0 kr a b k = _
      unfold F.zaf.L4.step
      rw [zd (by omega),zk,h2,za,zev hkb,za,zh (by omega),ih (k + 1) m h3 (by simp at hm; omega),List.drop_eq_getElem_cons hkb]
      by_cases hx : x = b[k]
      · have e : (!(x == b[k])) = false:=by simp [hx]
        rw [e,cond_false,hx]
        by_cases hr : r = b.drop (k + 1)
        · rw [if_pos hr,if_pos (by rw [hr])]
        · rw [if_neg hr,if_neg (fun h => hr (List.cons.inj h).2)]
      · have e : (!(x == b[k])) = true:=by simp [hx]
        rw [e,cond_true,if_neg (fun h => hx (List.cons.inj h).1)]
theorem zls (n : Nat) (a b : List (List UInt8)) (hb : a.length < 4611686018427387904) (hn : a.length < n) : F.zaf n a b = some (decide (a = b)):=by
  unfold F.zaf
  by_cases he : a.length = b.length
  · have : (!((a.length : Int) == (b.length : Int))) = false:=by simp [he]
    rw [this,cond_false]
    refine (zo1 n _ _ _ a b he hb a 0 n rfl hn).trans ?_
    by_cases h : a = b
    · simp [h]
    · simp [h]
  · have : (!((a.length : Int) == (b.length : Int))) = true:=by simp; omega
    rw [this,cond_true]
    have : a ≠ b:=fun h => he (by rw [h])
    simp [this]
theorem zri (n : Nat) (a : List (List UInt8)) (h1 : a.length ≤ 1000000) (h2 : a.flatten.length ≤ 1000000) : F.zb6 n a = some a.flatten:=by
  unfold F.zb6 O.bjoin
  have : (Nat.ble a.length big47 && Nat.ble (Lib.lens a + ([] : List UInt8).length * (a.length - 1)) big47 && ([] : List UInt8).isEmpty) = true:=by
    simp only [Bool.and_eq_true,nble,big47,List.length_nil,Nat.zero_mul,Nat.add_zero,← zet]
    exact ⟨⟨by omega,by omega⟩,rfl⟩
  rw [this]
  rfl
theorem zrj (n : Nat) (hn : 20000 ≤ n) : F.zbj n = some true:=by
  unfold F.zbj
  rw [zfb n hn _ _ (by decide),zfb n hn _ _ (by decide)]
  have e1 : linesOfG [[97,98],[99],[100,101,102]] 5 = ([[97,98,10,99,10],[100,101,102,10]],0,0,()):=by decide
  have e2 : linesOfG [[97,98],[99],[100,101,102]] 3 = ([],2,27,()):=by decide
  simp only [za,e1,e2]
  rw [zls n _ _ (by simp) (by simp; omega),zri n _ (by simp) (by simp)]
  rfl
theorem zi6 {mtu : Int} : ∀ {l : List (List UInt8)} {k : Nat},badG mtu k l = none→∀ s ∈ l,10 ∉ s ∧ (s.length : Int) + 1 ≤ mtu
  | [],k,h,s,hs => by simp at hs
  | x :: l,k,h,s,hs => by
    unfold badG at h
    split at h
    · cases h
    · split at h
      · cases h
      · rename_i h1 h2
        rcases List.mem_cons.1 hs with rfl | hs
        · exact ⟨h1,by omega⟩
        · exact zi6 h s hs
theorem zb1 {mtu : Int} : ∀ (l : List (List UInt8)) (cur : List UInt8),(gramsG mtu cur l).length ≤ l.length + 1
  | [],cur => by unfold gramsG; split <;> simp
  | s :: l,cur => by
    rw [za2]
    split
    · have:=zb1 (mtu:=mtu) l (s ++ [10]); simp; omega
    · have:=zb1 (mtu:=mtu) l (cur ++ s ++ [10]); simp at this ⊢; omega
end Go.AM
set_option linter.unusedVariables false
set_option linter.unusedSimpArgs false
namespace Go.AM
theorem znr (n : Nat) (mtu : Int) : F.zb4 n mtu = some (decide (1 ≤ mtu ∧ mtu ≤ 65536)):=by
  unfold F.zb4
  by_cases h : 1 ≤ mtu
  · rw [zd (by omega)]; simp [h]
  · rw [ze (by omega)]; simp [h]
theorem byte10G (b : UInt8) : ((b.toNat : Int) == (10 : Int)) = decide (b = 10):=by
  by_cases h : b = 10
  · subst h; rfl
  · simp only [h,decide_false,beq_eq_false_iff_ne,ne_eq]
    intro h2
    exact h (UInt8.toNat_inj.1 (by have : (10 : UInt8).toNat = 10:=rfl; omega))
theorem zo2 (n : Nat) (X : Type) (k2 : List (List UInt8)→Int→Int→(Nat × List (List UInt8))→Option X) (kr : (Nat × Nat)→Int→Int→(Nat × List (List UInt8))→(Nat × List (List UInt8))→Option X)
    (l : List (List UInt8)) (mtu : Int) (i : Nat) (s : List UInt8) (hi : l[i]? = some s) (hs : s.length ≤ 9000) (vb : Nat × List (List UInt8)) : ∀ (r : List UInt8) (k m : Nat),s.drop k = r→r.length < m →
    F.zd.L7 n k2 kr m l mtu (i : Int) (k : Int) vb = if 10 ∈ r then kr (1,0) (i : Int) 14 vb (1,[]) else k2 l mtu (i : Int) vb:=by
  intro r
  induction r with
  | nil =>
    intro k m hk hm
    have:=zj hk
    cases m with
    | zero => simp at hm
    | succ m =>
      show F.zd.L7.step n _ k2 kr l mtu _ _ vb = _
      unfold F.zd.L7.step
      rw [zk,hi,za,ze (by omega)]
      simp
  | cons x r ih =>
    intro k m hk hm
    obtain ⟨h1,h2,h3⟩:=zi hk
    cases m with
    | zero => simp at hm
    | succ m =>
      show F.zd.L7.step n (F.zd.L7 n k2 kr m) k2 kr l mtu _ _ vb = _
      unfold F.zd.L7.step
      rw [zk,hi,za,zd (by omega),za,zk,h2,za,byte10G]
      by_cases hx : x = 10
      · subst hx; simp
      · have hx' : ¬ (10 : UInt8) = x:=fun e => hx e.symm
        rw [ze hx,zh (by omega),ih (k + 1) m h3 (by simp at hm; omega)]
        simp [hx']
theorem zmq (n : Nat) (hn : 20000 ≤ n) (X : Type) (k0 : List (List UInt8)→Int→(Nat × List (List UInt8))→Option X) (kr : (Nat × Nat)→Int→Int→(Nat × List (List UInt8))→(Nat × List (List UInt8))→Option X)
    (l : List (List UInt8)) (mtu : Int) (hl : few20G l = true) (vb : Nat × List (List UInt8)) : ∀ (r : List (List UInt8)) (k m : Nat),l.drop k = r→r.length < m →
    F.zd.L4 n k0 kr m l mtu (k : Int) vb = match badG mtu k r with
      | some (j,e) => kr (1,0) (j : Int) e vb (1,[])
      | none => k0 l mtu vb:=by
  simp only [few20G,Bool.and_eq_true,decide_eq_true_eq,List.all_eq_true,small100G] at hl
  intro r
  induction r with
  | nil =>
    intro k m hk hm
    have:=zj hk
    cases m with
    | zero => simp at hm
    | succ m =>
      show F.zd.L4.step n _ k0 kr l mtu _ vb = _
      unfold F.zd.L4.step
      rw [ze (by omega)]
      rfl
  | cons x r ih =>
    intro k m hk hm
    obtain ⟨h1,h2,h3⟩:=zi hk
    have hx : x.length ≤ 9000:=hl.2 x (List.mem_of_getElem? h2)
    cases m with
    | zero => simp at hm
    | succ m =>
      show F.zd.L4.step n (F.zd.L4 n k0 kr m) k0 kr l mtu _ vb = _
      unfold F.zd.L4.step
      rw [zd (by omega)]
      refine (zo2 n _ _ _ l mtu k x h2 hx vb x 0 n rfl (by omega)).trans ?_
      unfold badG
      by_cases h10 : 10 ∈ x
      · simp [h10]
      · simp only [h10,if_false]
        rw [zk,h2,za,zq (by omega)]
        by_cases hf : (x.length : Int) + 1 > mtu
        · rw [zd hf,if_pos hf]
        · rw [ze hf,if_neg hf,zh (by omega)]
          exact ih (k + 1) m h3 (by simp at hm; omega)
theorem zi7 {α : Type} (l : List α) (a z : α) : upd (l ++ [a]) l.length z = l ++ [z]:=by
  rw [zr]; simp
theorem zi8 {α : Type} (l : List α) (a : α) : idx (l ++ [a]) (l.length : Int) = some a:=by
  rw [zk]; simp
def sofarG (cl : List (List UInt8)) (cur : List UInt8) : List (List UInt8):=if cur = [] then cl else cl ++ [cur]
theorem zo3 (n : Nat) (X : Type) (k4 : (Nat × Nat)→(Nat × List (List UInt8))→(Nat × List (List UInt8))→Option X) (l : List (List UInt8)) (mtu : Int) (hl : l.length ≤ 40) (hs : ∀ s ∈ l,s.length ≤ 9000 ∧ (s.length : Int) + 1 ≤ mtu) (hm : mtu ≤ 65536) (vb : Nat × List (List UInt8)) :
    ∀ (r : List (List UInt8)) (k m w : Nat) (cl : List (List UInt8)) (cur : List UInt8),l.drop k = r→r.length < m→k ≤ 40→cl.length ≤ k→(cur ≠ []→cl.length + 1 ≤ k)→(cur = []→cl = [])→cur.length ≤ 65536 →
    ∃ w',F.zd.L15 n k4 m l mtu (w,(sofarG cl cur).length) (k : Int) vb (w,sofarG cl cur) = k4 (w',(cl ++ gramsG mtu cur r).length) vb (w',cl ++ gramsG mtu cur r):=by
  intro r
  induction r with
  | nil =>
    intro k m w cl cur hk hm' hk40 hc1 hc2 hc3 hc4
    have:=zj hk
    cases m with
    | zero => simp at hm'
    | succ m =>
      refine ⟨w,?_⟩
      show F.zd.L15.step n _ k4 l mtu _ _ vb _ = _
      unfold F.zd.L15.step
      rw [ze (by omega)]
      have : sofarG cl cur = cl ++ gramsG mtu cur []:=by
        unfold sofarG gramsG
        by_cases h : cur = []
        · simp [h]
        · simp [h]
      rw [this]
  | cons s r ih =>
    intro k m w cl cur hk hm' hk40 hc1 hc2 hc3 hc4
    obtain ⟨h1,h2,h3⟩:=zi hk
    obtain ⟨hs1,hs2⟩:=hs s (List.mem_of_getElem? h2)
    cases m with
    | zero => simp at hm'
    | succ m =>
      have hmr : r.length < m:=by simp at hm'; omega
      have new : ∀ (out : List (List UInt8)),out.length ≤ 40→out.length = (cl ++ (if cur = [] then [] else [cur])).length→out = cl ++ (if cur = [] then [] else [cur])→gramsG mtu cur (s :: r) = (if cur = [] then [] else [cur]) ++ gramsG mtu (s ++ [10]) r →
          ∃ w',F.zd.L15 n k4 m l mtu (w + 1,(out ++ [[]]).length) ((k + 1 : Nat) : Int) vb (w + 1,out ++ [s ++ [10]]) = k4 (w',(cl ++ gramsG mtu cur (s :: r)).length) vb (w',cl ++ gramsG mtu cur (s :: r)):=by
        intro out ho _ ho2 hg
        have hne : s ++ [10] ≠ []:=by simp
        obtain ⟨w',hw⟩:=ih (k + 1) m (w + 1) out (s ++ [10]) h3 hmr (by omega) (by
          rw [ho2]
          by_cases hcur : cur = []
          · simp [hcur]; omega
          · have:=hc2 hcur; simp [hcur]; omega) (fun _ => by
          rw [ho2]
          by_cases hcur : cur = []
          · have:=hc3 hcur; simp [hcur,this]
          · have:=hc2 hcur; simp [hcur]; omega) (fun e => absurd e hne) (by simp; omega)
        refine ⟨w',?_⟩
        have e1 : sofarG out (s ++ [10]) = out ++ [s ++ [10]]:=by unfold sofarG; rw [if_neg hne]
        rw [e1] at hw
        have e2 : (out ++ [[]]).length = (out ++ [s ++ [10]]).length:=by simp
        rw [e2,hw]
        have e3 : out ++ gramsG mtu (s ++ [10]) r = cl ++ gramsG mtu cur (s :: r):=by rw [hg,ho2,List.append_assoc]
        rw [e3]
      have hkl : k < l.length:=h1
      by_cases hcur : cur = []
      · have hcl:=hc3 hcur
        subst hcur hcl
        have hg : gramsG mtu [] (s :: r) = [] ++ gramsG mtu (s ++ [10]) r:=by
          rw [za2,if_neg (by simp; omega)]; simp
        obtain ⟨w',hw⟩:=new [] (by simp) rfl rfl (by simpa using hg)
        refine ⟨w',?_⟩
        show F.zd.L15.step n (F.zd.L15 n k4 m) k4 l mtu _ _ vb _ = _
        unfold F.zd.L15.step
        rw [zd (by omega)]
        have e0 : sofarG [] ([] : List UInt8) = []:=rfl
        simp only [e0,List.length_nil,List.nil_append,List.length_cons]
        have hb : Nat.beq w w = true:=Nat.beq_refl w
        have hb1 : Nat.beq (w + 1) (w + 1) = true:=Nat.beq_refl _
        have e1 : IntKind.wrap .i64 (((0 + 1 : Nat) : Int) - 1) = 0:=by rw [zq (by omega)]; rfl
        have e2 : (decide ((0 + 1) * 16 ≤ 2 ^ 46) && decide (0 < 16 ∧ 16 ≤ 2 ^ 20)) = true:=by decide
        have e3 : (((0 : Nat) : Int) == (0 : Int)) = true:=rfl
        have e4 : (decide ((0 : Int) ≤ 0) && decide ((0 : Int) < ((0 + 1 : Nat) : Int))) = true:=by decide
        have e5 : idx ([[]] : List (List UInt8)) (0 : Int) = some []:=rfl
        have e6 : (decide ((([] : List UInt8).length) + s.length ≤ strMax)) = true:=by rw [zl]; simp; omega
        have e7 : (decide ((([] ++ s).length) + 1 ≤ strMax)) = true:=by rw [zl]; simp; omega
        simp only [e1,e2,e3,e4,hb,hb1,e5,cond_true,za,zk,h2]
        simp only [List.length_nil,List.nil_append] at e6 e7
        simp only [List.length_nil,List.nil_append,e6,e7,cond_true]
        rw [zh (by omega)]
        exact hw
      · have hc5:=hc2 hcur
        have e0 : sofarG cl cur = cl ++ [cur]:=by unfold sofarG; rw [if_neg hcur]
        have hlen : (cl ++ [cur]).length = cl.length + 1:=by simp
        have hb : Nat.beq w w = true:=Nat.beq_refl w
        have hb1 : Nat.beq (w + 1) (w + 1) = true:=Nat.beq_refl _
        have e1 : IntKind.wrap .i64 (((cl.length + 1 : Nat) : Int) - 1) = (cl.length : Int):=by rw [zq (by omega)]; omega
        have e3 : (((cl.length + 1 : Nat) : Int) == (0 : Int)) = false:=by simp; omega
        have e4 : (decide ((0 : Int) ≤ (cl.length : Int)) && decide ((cl.length : Int) < ((cl.length + 1 : Nat) : Int))) = true:=by simp; omega
        have e5 : idx (cl ++ [cur]) (cl.length : Int) = some cur:=zi8 _ _
        have e8 : IntKind.wrap .i64 ((IntKind.wrap .i64 ((cur.length : Int) + (s.length : Int))) + 1) = (cur.length : Int) + s.length + 1:=by rw [zq (x:=(cur.length : Int) + (s.length : Int)) (by omega),zq (by omega)]
        by_cases hfit : (cur.length : Int) + s.length + 1 > mtu
        · have hg : gramsG mtu cur (s :: r) = [cur] ++ gramsG mtu (s ++ [10]) r:=by rw [za2,if_pos hfit]; rfl
          obtain ⟨w',hw⟩:=new (cl ++ [cur]) (by simp; omega) (by simp [hcur]) (by simp [hcur]) (by simp only [hcur,if_false]; exact hg)
          refine ⟨w',?_⟩
          show F.zd.L15.step n (F.zd.L15 n k4 m) k4 l mtu _ _ vb _ = _
          unfold F.zd.L15.step
          rw [zd (by omega)]
          simp only [e0,hlen]
          have g0 : (cl ++ [cur] ++ [[]]).length = cl.length + 1 + 1:=by simp
          have g1 : IntKind.wrap .i64 (((cl.length + 1 + 1 : Nat) : Int) - 1) = ((cl.length + 1 : Nat) : Int):=by rw [zq (by omega)]; omega
          have g2 : (decide ((cl.length + 1 + 1) * 16 ≤ 2 ^ 46) && decide (0 < 16 ∧ 16 ≤ 2 ^ 20)) = true:=by simp; omega
          have g4 : (decide ((0 : Int) ≤ ((cl.length + 1 : Nat) : Int)) && decide (((cl.length + 1 : Nat) : Int) < ((cl.length + 1 + 1 : Nat) : Int))) = true:=by simp; omega
          have g5 : idx (cl ++ [cur] ++ [[]]) ((cl.length + 1 : Nat) : Int) = some []:=by
            have:=zi8 (cl ++ [cur]) ([] : List UInt8)
            rw [hlen] at this
            exact this
          have g6 : upd (cl ++ [cur] ++ [[]]) (Int.toNat ((cl.length + 1 : Nat) : Int)) (s ++ [10]) = cl ++ [cur] ++ [s ++ [10]]:=by
            have:=zi7 (cl ++ [cur]) ([] : List UInt8) (s ++ [10])
            rw [hlen] at this
            rw [Int.toNat_natCast]
            exact this
          have g7 : (decide (0 + s.length ≤ strMax)) = true:=by rw [zl]; simp; omega
          have g8 : (decide (s.length + 1 ≤ strMax)) = true:=by rw [zl]; simp; omega
          simp only [e3,e1,e4,hb,e5,e8,cond_true,cond_false,za,zk,h2]
          rw [zd hfit]
          simp only [g0,g1,g2,g4,hb1,cond_true]
          rw [g5]
          simp only [za,List.length_nil,List.nil_append,g7,g8,cond_true]
          rw [g6,zh (by omega)]
          rw [g0] at hw
          exact hw
        · have hg : gramsG mtu cur (s :: r) = gramsG mtu (cur ++ s ++ [10]) r:=by rw [za2,if_neg hfit]
          have hne : cur ++ s ++ [10] ≠ []:=by simp
          obtain ⟨w',hw⟩:=ih (k + 1) m w cl (cur ++ s ++ [10]) h3 hmr (by omega) (by omega) (fun _ => by omega) (fun e => absurd e hne) (by simp; omega)
          refine ⟨w',?_⟩
          have e1' : sofarG cl (cur ++ s ++ [10]) = cl ++ [cur ++ s ++ [10]]:=by unfold sofarG; rw [if_neg hne]
          rw [e1',← hg] at hw
          show F.zd.L15.step n (F.zd.L15 n k4 m) k4 l mtu _ _ vb _ = _
          unfold F.zd.L15.step
          rw [zd (by omega)]
          simp only [e0,hlen]
          have g6 : upd (cl ++ [cur]) (Int.toNat (cl.length : Int)) (cur ++ s ++ [10]) = cl ++ [cur ++ s ++ [10]]:=by rw [Int.toNat_natCast]; exact zi7 _ _ _
          have g7 : (decide (cur.length + s.length ≤ strMax)) = true:=by rw [zl]; simp; omega
          have g8 : (decide (((cur ++ s).length) + 1 ≤ strMax)) = true:=by rw [zl]; simp; omega
          simp only [e3,e1,e4,hb,e5,e8,cond_true,cond_false,za,zk,h2]
          rw [ze hfit]
          simp only [g7,g8,cond_true]
          rw [g6,zh (by omega)]
          have g9 : (cl ++ [cur ++ s ++ [10]]).length = cl.length + 1:=by simp
          rw [g9] at hw
          exact hw
theorem zlt (n : Nat) (hn : 20000 ≤ n) (l : List (List UInt8)) (mtu : Int) (hf : few20G l = true) : F.zd n l mtu = some (linesOfG l mtu):=by
  have hf':=hf
  simp only [few20G,Bool.and_eq_true,decide_eq_true_eq,List.all_eq_true,small100G] at hf'
  obtain ⟨hl,hs⟩:=hf'
  unfold F.zd linesOfG
  rw [znr,za]
  by_cases hm : 1 ≤ mtu ∧ mtu ≤ 65536
  · rw [if_neg (by omega)]
    simp only [hm,decide_true,Bool.not_true,cond_false,and_self]
    refine (zmq n (by omega) _ _ _ l mtu hf (1,[]) l 0 n rfl (by omega)).trans ?_
    cases hb : badG mtu 0 l with
    | some je => rfl
    | none =>
      have hnone:=zi6 hb
      obtain ⟨w',hw⟩:=zo3 n _ (fun e20_9 e20_b0_0 e20_b1_0 =>
              bif Nat.beq e20_9.1 e20_b1_0.1 then
                some ((e20_b1_0.2,(0 : Int),(0 : Int),()))
              else
                none) l mtu hl (fun s hs' => ⟨hs s hs',(hnone s hs').2⟩) (by omega) (1,[]) l 0 n 1 [] [] rfl (by omega) (by omega) (by simp) (fun h => absurd rfl h) (fun _ => rfl) (by simp)
      refine Eq.trans hw ?_
      simp only [List.nil_append]
      rw [show Nat.beq w' w' = true from Nat.beq_refl w']
      rfl
  · rw [if_pos (by omega)]
    simp [hm]
theorem zha (l : List (List UInt8)) (mtu : Int) : (linesOfG l mtu).1.length ≤ l.length + 1:=by
  unfold linesOfG
  split
  · simp
  · split
    · simp
    · exact zb1 l []
end Go.AM
set_option linter.unusedVariables false
set_option linter.unusedSimpArgs false
namespace Go.AM
theorem zrk (n : Nat) (X : Type) (k0 : List UInt8→Int→List DecL→Int→List TagL→Int→Option X) (kr : Bool→List UInt8→Int→List DecL→Int→List TagL→Int→Option X) (ts : List TagL) (hs : ts.length ≤ 1000) (b0 : List UInt8) (b1 : Int) (b2 : List DecL) (b3 : Int) (b5 : Int) : ∀ (r : List TagL) (k m : Nat),ts.drop k = r→r.length < m →
    F.zam.L4 n k0 kr m (k : Int) b0 b1 b2 b3 ts b5 = bif r.all (fun t => decide (t.1.length ≤ 150) && decide (t.2.length ≤ 150)) then k0 b0 b1 b2 b3 ts b5 else kr false b0 b1 b2 b3 ts b5:=by
  intro r
  induction r with
  | nil =>
    intro k m h1 hm
    obtain ⟨m,rfl⟩ : ∃ q,m = q + 1:=⟨m - 1,by omega⟩
    rw [F.zam.L4]
    unfold F.zam.L4.step
    dsimp only
    rw [ze (by have:=zj h1; omega)]
    rfl
  | cons t r ih =>
    intro k m h1 hm
    obtain ⟨m,rfl⟩ : ∃ q,m = q + 1:=⟨m - 1,by simp at hm; omega⟩
    obtain ⟨l1,g1,t1⟩:=zi h1
    rw [F.zam.L4]
    unfold F.zam.L4.step
    dsimp only
    rw [zd (by omega),zk,g1,za,za,zh (by omega),ih (k + 1) m t1 (by simp at hm; omega),List.all_cons]
    by_cases e1 : t.1.length ≤ 150
    · rw [ze (by omega),decide_eq_true e1]
      by_cases e2 : t.2.length ≤ 150
      · rw [ze (by omega),decide_eq_true e2]; rfl
      · rw [zd (by omega),decide_eq_false e2]; rfl
    · rw [zd (by omega),decide_eq_false e1]; rfl
def few7B (m : MetD) : Bool:=decide (m.1.length ≤ 300) && (decide (m.2.2.1.length ≤ 80) && (decide (m.2.2.2.2.1.length ≤ 40) && m.2.2.2.2.1.all (fun t => decide (t.1.length ≤ 150) && decide (t.2.length ≤ 150))))
theorem zxk (n : Nat) (hn : 200000 ≤ n) (m : MetD) : F.zam n m = some (few7B m):=by
  obtain ⟨nm,k,vs,r,ts,t,_⟩:=m
  unfold F.zam few7B
  dsimp only
  by_cases h1 : nm.length ≤ 300
  · rw [ze (by omega),decide_eq_true h1,Bool.true_and]
    by_cases h2 : vs.length ≤ 80
    · rw [ze (by omega),decide_eq_true h2,Bool.true_and]
      by_cases h3 : ts.length ≤ 40
      · rw [ze (by omega),decide_eq_true h3,Bool.true_and]
        refine (zrk n Bool _ _ ts (by omega) nm k vs r t ts 0 n rfl (by omega)).trans ?_
        exact zgd _ _ _ |>.trans (by cases ts.all (fun t => decide (t.1.length ≤ 150) && decide (t.2.length ≤ 150)) <;> rfl)
      · rw [zd (by omega),decide_eq_false h3]; rfl
    · rw [zd (by omega),decide_eq_false h2]; rfl
  · rw [zd (by omega),decide_eq_false h1]; rfl
theorem zxl {m : MetD} (hw : MetWf m) (h : few7B m = true) : MetOK m:=by
  unfold few7B at h
  simp only [Bool.and_eq_true,decide_eq_true_eq] at h
  obtain ⟨h1,h2,h3,h4⟩:=h
  refine ⟨by omega,⟨by omega,hw⟩,by omega,fun t ht => ?_⟩
  have:=List.all_eq_true.1 h4 t ht
  simp only [Bool.and_eq_true,decide_eq_true_eq] at this
  exact ⟨by omega,by omega⟩
def few8B (l : List MetL) : Bool:=(l.take 13).all (fun m => few7B (opM m)) && decide (l.length ≤ 12)
theorem zrl (n : Nat) (hn : 200000 ≤ n) (k0 : List MetL→Option Bool) (kr : Bool→Option Bool) (h0 : ∀ l,k0 l = some (decide ((l.length : Int) ≤ 12))) (hr : ∀ b,kr b = some b) (l : List MetL) : ∀ (r : List MetL) (i m : Nat),l.drop i = r→i ≤ 13→14 < m + i→F.zar.L2 n k0 kr m l (i : Int) = some ((r.take (13 - i)).all (fun m => few7B (opM m)) && decide (l.length ≤ 12)):=by
  have hd : decide ((l.length : Int) ≤ 12) = decide (l.length ≤ 12):=decide_eq_decide.2 (by omega)
  intro r
  induction r with
  | nil =>
    intro i m hi h41 hm
    have:=zj hi
    obtain ⟨m,rfl⟩ : ∃ q,m = q + 1:=⟨m - 1,by omega⟩
    rw [F.zar.L2]
    unfold F.zar.L2.step
    dsimp only
    rw [ze (by omega),h0,hd]
    simp
  | cons x r ih =>
    intro i m hi h41 hm
    obtain ⟨g1,g2,g3⟩:=zi hi
    obtain ⟨m,rfl⟩ : ∃ q,m = q + 1:=⟨m - 1,by omega⟩
    rw [F.zar.L2]
    unfold F.zar.L2.step
    dsimp only
    rw [zd (by omega)]
    by_cases h : i < 13
    · have hN : F.zam n (x.1,x.2.1,x.2.2.1,x.2.2.2.1,x.2.2.2.2.1,x.2.2.2.2.2,()) = some (few7B (opM x)):=zxk n hn (opM x)
      rw [zd (by omega),zk,g2,za,hN,za,show 13 - i = (13 - (i + 1)) + 1 by omega,List.take_succ_cons,List.all_cons]
      cases few7B (opM x)
      · rw [Bool.not_false,cond_true,hr]; rfl
      · rw [Bool.not_true,cond_false,zh (by omega),ih (i + 1) m g3 (by omega) (by omega),Bool.true_and]
    · rw [ze (by omega),h0,hd,show 13 - i = 0 by omega]
      simp
theorem zxm (n : Nat) (hn : 200000 ≤ n) (l : List MetL) : F.zar n l = some (few8B l):=by
  unfold F.zar
  exact zrl n hn _ _ (fun _ => rfl) (fun _ => rfl) l l 0 n rfl (by omega) (by omega)
theorem zxn {l : List MetL} (hw : ∀ m ∈ l,MetWf (opM m)) (h : few8B l = true) : BatOK l ∧ l.length ≤ 12:=by
  unfold few8B at h
  simp only [Bool.and_eq_true,decide_eq_true_eq] at h
  obtain ⟨h1,h2⟩:=h
  rw [List.take_of_length_le (by omega)] at h1
  exact ⟨fun m hm => zxl (hw m hm) (List.all_eq_true.1 h1 m hm),h2⟩
theorem zmr {l : List MetL} (h : l.length ≤ 12) (hok : BatOK l) (f : Int) : few20G (linesB l f).1 = true:=by
  unfold few20G
  simp only [Bool.and_eq_true,decide_eq_true_eq,List.all_eq_true,small100G]
  exact ⟨zd3 (by omega) hok f,fun s hs => by have:=(zg9 hok f).2 s hs; omega⟩
theorem zms (l : List (List UInt8)) (mtu : Int) (h : l.length ≤ 40) : (linesOfG l mtu).1.length ≤ 100:=by
  have:=zha l mtu
  omega
theorem zo4 (n : Nat) (hn : 2000000 ≤ n) (l : List MetL) (hok : BatOK l) (hl : l.length ≤ 12) (f mtu : Int) : ∃ v,F.zbu n l f mtu = some v ∧ F.zbx n l f mtu = some v ∧ v.1.length ≤ 100:=by
  unfold F.zbu F.zbx
  rw [znq,znr,za,za]
  by_cases hm : 1 ≤ mtu ∧ mtu ≤ 65536
  · rw [decide_eq_true hm,Bool.not_true,cond_false,cond_false]
    by_cases h4 : f = 4
    · rw [beq_iff_eq.2 h4,cond_true,cond_true,zfx n hn l hok,ze8 n hn l hok,za]
      generalize frameB l = v
      by_cases h0 : v.2.2.1 = 0
      · rw [h0,show (!((0 : Int) == (0 : Int))) = false from rfl,cond_false]
        by_cases hb : (v.1.length : Int) > mtu
        · rw [zd hb]; exact ⟨_,rfl,rfl,by simp⟩
        · rw [ze hb]; exact ⟨_,rfl,rfl,by simp⟩
      · rw [beq_eq_false_iff_ne.2 h0,Bool.not_false,cond_true]; exact ⟨_,rfl,rfl,by simp⟩
    · rw [beq_eq_false_iff_ne.2 h4,cond_false,cond_false,ze9 n (by omega) l hok f,zfy n (by omega) l hok f,za,za]
      have hf:=zmr hl hok f
      have hl':=zd3 (l:=l) (by omega) hok f
      by_cases h0 : (linesB l f).2.2.1 = 0
      · rw [h0,show (!((0 : Int) == (0 : Int))) = false from rfl,cond_false,cond_false,zfb n (by omega) _ mtu hf,zlt n (by omega) _ mtu hf,za]
        exact ⟨_,rfl,rfl,zms _ _ hl'⟩
      · rw [beq_eq_false_iff_ne.2 h0,Bool.not_false,cond_true,cond_true]; exact ⟨_,rfl,rfl,by simp⟩
  · rw [decide_eq_false hm,Bool.not_false,cond_true,cond_true]; exact ⟨_,rfl,rfl,by simp⟩
def maxF : List (List UInt8)→Int→Int
  | [],v => v
  | s :: r,v => maxF r (if (s.length : Int) + 1 > v then (s.length : Int) + 1 else v)
theorem zo5 {X : Type} (n : Nat) (k0 : Int→Option X) (l : List (List UInt8)) (hl : l.length ≤ 1000) (hs : ∀ s ∈ l,s.length ≤ 9000) : ∀ (r : List (List UInt8)) (i m : Nat) (v : Int),l.drop i = r→r.length < m→i ≤ l.length→F.zai.L9 n k0 m v l (l.length : Int) (i : Int) = k0 (maxF r v):=by
  intro r
  induction r with
  | nil =>
    intro i m v h1 hm hi
    obtain ⟨m,rfl⟩ : ∃ q,m = q + 1:=⟨m - 1,by omega⟩
    rw [F.zai.L9]
    unfold F.zai.L9.step
    dsimp only
    rw [ze (by have:=zj h1; omega)]
    rfl
  | cons s r ih =>
    intro i m v h1 hm hi
    obtain ⟨m,rfl⟩ : ∃ q,m = q + 1:=⟨m - 1,by simp at hm; omega⟩
    obtain ⟨l1,g1,t1⟩:=zi h1
    have hx:=hs s (List.mem_of_getElem? g1)
    rw [F.zai.L9]
    unfold F.zai.L9.step
    dsimp only
    rw [zd (by omega),zk,g1,za,zh (by omega),zh (by omega),ih (i + 1) m _ t1 (by simp at hm; omega) (by omega)]
    rfl
theorem zmt {X : Type} (n : Nat) (k0 : Int→Option X) (l : List (List UInt8)) (hl : l.length ≤ 1000) (hs : ∀ s ∈ l,s.length ≤ 9000) : ∀ (r : List (List UInt8)) (i m : Nat) (v : Int),l.drop i = r→r.length < m→i ≤ l.length→F.zaj.L9 n k0 m l v (i : Int) = k0 (maxF r v):=by
  intro r
  induction r with
  | nil =>
    intro i m v h1 hm hi
    obtain ⟨m,rfl⟩ : ∃ q,m = q + 1:=⟨m - 1,by omega⟩
    rw [F.zaj.L9]
    unfold F.zaj.L9.step
    dsimp only
    rw [ze (by have:=zj h1; omega)]
    rfl
  | cons s r ih =>
    intro i m v h1 hm hi
    obtain ⟨m,rfl⟩ : ∃ q,m = q + 1:=⟨m - 1,by simp at hm; omega⟩
    obtain ⟨l1,g1,t1⟩:=zi h1
    have hx:=hs s (List.mem_of_getElem? g1)
    rw [F.zaj.L9]
    unfold F.zaj.L9.step
    dsimp only
    rw [zd (by omega),zk,g1,za,za,zh (by omega),zh (by omega)]
    by_cases h : ((s.length + 1 : Nat) : Int) > v
    · rw [zd h,ih (i + 1) m _ t1 (by simp at hm; omega) (by omega)]
      show _ = k0 (maxF r _)
      rw [if_pos (by omega)]; rfl
    · rw [ze h,ih (i + 1) m _ t1 (by simp at hm; omega) (by omega)]
      show _ = k0 (maxF r _)
      rw [if_neg (by omega)]
theorem zo6 (n : Nat) (hn : 2000000 ≤ n) (l : List MetL) (hok : BatOK l) (hl : l.length ≤ 12) (f : Int) : ∃ v,F.zai n l f = some v ∧ F.zaj n l f = some v:=by
  unfold F.zai F.zaj
  by_cases h4 : f = 4
  · rw [beq_iff_eq.2 h4,cond_true,cond_true,zfx n hn l hok,ze8 n hn l hok,za]
    exact ⟨_,rfl,rfl⟩
  · rw [beq_eq_false_iff_ne.2 h4,cond_false,cond_false,ze9 n (by omega) l hok f,zfy n (by omega) l hok f,za,za]
    have hl':=zd3 (l:=l) (by omega) hok f
    have hs':=fun s hs => (zg9 hok f).2 s hs
    by_cases h0 : (linesB l f).2.2.1 = 0
    · rw [h0,show (!((0 : Int) == (0 : Int))) = false from rfl,cond_false,cond_false]
      have e1:=zo5 n (fun e4_13 => some ((e4_13,(0 : Int),(0 : Int),()))) (linesB l f).1 (by omega) (fun s hs => by have:=hs' s hs; omega) (linesB l f).1 0 n 1 (by simp) (by omega) (by omega)
      have e2:=zmt n (fun e5_13 => some ((e5_13,(0 : Int),(0 : Int),()))) (linesB l f).1 (by omega) (fun s hs => by have:=hs' s hs; omega) (linesB l f).1 0 n 1 (by simp) (by omega) (by omega)
      exact ⟨_,e1,e2⟩
    · rw [beq_eq_false_iff_ne.2 h0,Bool.not_false,cond_true,cond_true]; exact ⟨_,rfl,rfl⟩
theorem zjg (n : Nat) (hn : 2000000 ≤ n) (l : List MetL) (hw : ∀ m ∈ l,MetWf (opM m)) (f mtu : Int) : F.zbo n l f mtu = some true:=by
  unfold F.zbo
  rw [zxm n (by omega) l,za,zrj n (by omega)]
  cases h : few8B l
  · rfl
  obtain ⟨hok,hl⟩:=zxn hw h
  obtain ⟨v,e1,e2,hv⟩:=zo4 n hn l hok hl f mtu
  obtain ⟨u,e3,e4⟩:=zo6 n hn l hok hl f
  rw [Bool.not_true,cond_false,e1,e2,e3,e4]
  simp only [za]
  rw [zls n v.1 v.1 (by omega) (by omega),za,decide_eq_true rfl]
  simp only [beq_self_eq_true,cond_true]
end Go.AM
namespace Go.Proofs.YthpnjohdecdlkaaGreatDoor.splitBatches
open Go.ChangeShapes Go.WideShapes Go.ChangeAt Go.RowKit Go.AM
theorem j1 : laidOutB Tryz.prog = true:=by kernel_rfl
theorem own : ownKnob Tryz.prog.godebug = none:=by kernel_rfl
theorem goes : LawGoes Tryz.prog SI 3 [(.sl (.agg [.str,(.int .i64),(.sl (.agg [.bool,(.int .u64),(.int .i64)])),(.int .i64),(.sl (.agg [.str,.str])),(.int .i64)])),(.int .i64),(.int .i64)]:=fun x hx w vals hI hr =>
  ok3 _ (x.1,x.2.1,x.2.2.1,()) true (zjg 2000000 (by omega) x.1 (fun m hm => (hx.1.2 m hm).2.2.1.2) x.2.1 x.2.2.1) w (AllD w) vals (WOf.of hI) hr (fun b o h => h)
noncomputable def laidWorld (os : Os) : World:=laidOf Tryz.prog os [layTab 4 Rows.laid_math_bits_deBruijn32tab,layTab 5 Rows.laid_math_bits_deBruijn64tab,layTab 1 Rows.laid_internal_strconv_uint64pow10,layTab 3 Rows.laid_unicode_utf8_acceptRanges,layErr 7 312 314 Rows.laid_strconv_ErrRange,layErr 6 312 314 Rows.laid_strconv_ErrSyntax,layTab 2 Rows.laid_unicode_utf8_first]
theorem zut (os : Os) (args : Array Value) : laidMet Tryz.prog Rows.splitBatchesRow.laid ((laidWorld os).forCall (fun _ _ => 0) ⟨#[],args,[]⟩).memory:=
  (LaidIn.of_run [4,5,1,3,7,6,2,(World.holding Tryz.prog os ⟨#[],#[],[]⟩).heap.size,(World.holding Tryz.prog os ⟨#[],#[],[]⟩).heap.size + 1] 8 (by kernel_rfl) (by kernel_rfl) (by kernel_rfl) (by kernel_rfl)).met
theorem zmu (os : Os) {H : Type} (enc : TypeId × Value→H) :
    (OpenSpec.ofChange Rows.splitBatchesSpec).preRow enc Tryz.prog Tryz.f3 Rows.splitBatchesRow.domain false Rows.splitBatchesRow.laid ((laidWorld os).forCall (fun _ _ => 0) ⟨#[],#[.slice none 0 0,.int .i64 0,.int .i64 0],[]⟩).memory #[.slice none 0 0,.int .i64 0,.int .i64 0]:=by
  have hw : (DataW.whole enc Tryz.prog ((laidWorld os).forCall (fun _ _ => 0) ⟨#[],#[.slice none 0 0,.int .i64 0,.int .i64 0],[]⟩).memory Tryz.f3.params.toList Rows.splitBatchesSpec.vars false (#[.slice none 0 0,.int .i64 0,.int .i64 0] : Array Value).toList 8).map (fun x => (x.1,x.2.1)) =
      some ([.nil,.lit (.int .i64 0),.lit (.int .i64 0)],[]):=by kernel_rfl
  obtain ⟨⟨x1,x2,x3⟩,hx,hx1⟩:=Option.map_eq_some_iff.1 hw
  simp only [Prod.mk.injEq] at hx1
  obtain ⟨rfl,rfl⟩:=hx1
  exact OpenSpec.preRow_of_cond 8 hx (by kernel_rfl) (fun k hk => by cases hk) (by kernel_rfl) (zut os _)
set_option maxRecDepth 100000 in
theorem lifted (os : Os) (started : os.Started) (H : Type) (enc : TypeId × Value→H) (F : Stop.Interp) :
    ReturnsInHanded {} Tryz.checked os 3 .any ((OpenSpec.ofChange Rows.splitBatchesSpec).preRow enc Tryz.prog Tryz.f3 Rows.splitBatchesRow.domain false Rows.splitBatchesRow.laid) (((OpenSpec.ofChange Rows.splitBatchesSpec).at F).post enc Tryz.prog Tryz.f3 false true false false):=by
  refine returnsInHanded_of_row (C:=Tryz.checked) (s:=OpenSpec.ofChange Rows.splitBatchesSpec) own started (by kernel_rfl) Tryz.func3
    (witness_row_atRef (enc:=enc) (C:=Tryz.checked) false (laidWorld os) #[.slice none 0 0,.int .i64 0,.int .i64 0] rfl (by kernel_rfl) (by kernel_rfl) (by kernel_rfl) (zmu os enc)) ?_
  intro W base args ds gs before hval hW _ _ hw hL hO _
  exact zp5 (s:=Rows.splitBatchesSpec) (n:=8) j1 Tryz.func3 (by kernel_rfl) (by decide) (by kernel_rfl) rfl Tryz.underlying4 rfl (fun ds h => by match ds,h with | [_,_,_],_ => rfl) goes hval hW hw ⟨hL,hO⟩
theorem j2 : mapsRowed Tryz.prog = true:=by kernel_rfl
theorem j3 : (Rows.splitBatchesRow.inPlace == Tryz.prog.inPlace 3) = true:=by kernel_rfl
theorem j4 : (Rows.splitBatchesRow.unfollowed == Tryz.prog.unfollowed 3) = true:=by kernel_rfl
theorem j5 : (Rows.splitBatchesRow.recurses == Tryz.prog.recurses 3) = true:=by kernel_rfl
theorem j6 : (Rows.splitBatchesRow.named == Tryz.prog.varsNamed 3) = true:=by kernel_rfl
theorem joined : joinedFacts Tryz.prog 3 Tryz.f3 (OpenSpec.ofChange Rows.splitBatchesSpec).bare Rows.splitBatchesRow = true:=by
  simp only [joinedFacts,Bool.and_eq_true]
  repeat' apply And.intro
  · kernel_rfl
  · exact j1
  · exact j2
  · kernel_rfl
  · kernel_rfl
  · kernel_rfl
  · kernel_rfl
  · kernel_rfl
  · kernel_rfl
  · exact j3
  · exact j4
  · exact j5
  · exact j6
  all_goals kernel_rfl
theorem said : Rows.SplitBatchesSaid:=
  OpenClaim.holds_of_cond 3 Tryz.f3 rfl rfl rfl rfl rfl rfl rfl ⟨rfl,rfl,rfl,rfl,rfl⟩ rfl rfl rfl rfl rfl (by kernel_rfl) Tryz.func3 joined
    (of_decide_eq_true (by kernel_rfl)) (by unfold Func.isWrapper; first | (rw [if_pos (by decide +kernel)]; kernel_rfl) | (rw [if_neg (by decide +kernel)]; exact ⟨rfl,rfl⟩))
    (fun os started H enc _ F => by rw [OpenClaim.pre_eq_preRow]; exact lifted os started H enc F)
theorem plain (f : FuncId) (fn : Func) (hf : Tryz.pinned.checked.prog.funcNamed "forebay/forebaylaw20.SplitBatches" = some f) (hfn : Tryz.pinned.checked.prog.funcs[f]? = some fn) :
    true = Tryz.pinned.checked.prog.looks [] ∧ ∀ (j : Nat) t,fn.params[j]? = some t→Tryz.pinned.checked.prog.wantsStandIn t = false:=by
  obtain rfl : f = 3 := Option.some.inj ((show Tryz.prog.funcNamed "forebay/forebaylaw20.SplitBatches" = some 3 by kernel_rfl).symm.trans hf) |>.symm
  obtain rfl : fn = Tryz.f3:=(Option.some.inj (Tryz.func3.symm.trans hfn)).symm
  refine ⟨by kernel_rfl,fun j t ht => ?_⟩
  have hm : t ∈ ([22,3,3] : List TypeId):=by
    rw [Tryz.params3] at ht
    have:=Array.mem_of_getElem? ht
    simpa using this
  have all : ∀ x ∈ ([22,3,3] : List TypeId),Tryz.prog.wantsStandIn x = false:=fun x hx => by
    have h : ([22,3,3] : List TypeId).all (fun x => Tryz.prog.wantsStandIn x == false) = true:=by kernel_rfl
    simpa using List.all_eq_true.1 h x hx
  exact all t hm
theorem proved : Rows.SplitBatchesCardSaid:=
  Claim7.holds_tied_plain_at .later [] _ _ _ _ said (fun _ h => by cases h) (by kernel_rfl) (fun _ h => by cases h) splitBatches_row_tie rfl ⟨rfl,rfl⟩ (by kernel_rfl) rfl plain (by kernel_rfl)
end Go.Proofs.YthpnjohdecdlkaaGreatDoor.splitBatches
