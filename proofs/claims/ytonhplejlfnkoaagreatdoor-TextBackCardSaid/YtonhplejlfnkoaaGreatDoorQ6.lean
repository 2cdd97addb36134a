/- A batch that a format can say is decoded from its bytes as its Normal, and what is decoded is in its one form, can be said, and is decoded from its bytes as the same. -/
import Derived.Test.YtonhplejlfnkoaaGreatDoorQ5
import Derived.KernelRfl
import Derived.Test.YtonhplejlfnkoaaGreatDoorCards
import Derived.Test.YtonhplejlfnkoaaGreatDoorTie
import Derived.OpenShut
set_option linter.unusedVariables false
set_option linter.unusedSimpArgs false
namespace Go.AM
theorem zva (x y : DecL) : ((x.1 == y.1) && ((x.2.1 == y.2.1) && (x.2.2 == y.2.2))) = decide (x = y):=by
  obtain ⟨a,b,c⟩:=x
  obtain ⟨a',b',c'⟩:=y
  by_cases h : ((a,b,c) : DecL) = (a',b',c')
  · rw [decide_eq_true h]
    simp only [Prod.mk.injEq] at h
    simp [h.1,h.2.1,h.2.2]
  · rw [decide_eq_false h]
    cases h1 : (a == a') && ((b == b') && (c == c')) with
    | false => rfl
    | true =>
      simp only [Bool.and_eq_true,beq_iff_eq] at h1
      exact absurd (by rw [h1.1,h1.2.1,h1.2.2]) h
theorem zl9 (x y : TagL) : ((x.1 == y.1) && (x.2 == y.2)) = decide (x = y):=by
  obtain ⟨a,b⟩:=x
  obtain ⟨a',b'⟩:=y
  by_cases h : ((a,b) : TagL) = (a',b')
  · rw [decide_eq_true h]
    simp only [Prod.mk.injEq] at h
    simp [h.1,h.2]
  · rw [decide_eq_false h]
    cases h1 : (a == a') && (b == b') with
    | false => rfl
    | true =>
      simp only [Bool.and_eq_true,beq_iff_eq] at h1
      exact absurd (by rw [h1.1,h1.2]) h
theorem zsb (n : Nat) (X : Type) (k0 : Unit→Option X) (kr : Bool→Option X) (a b : List DecL) (ha : a.length ≤ 10000) (hl : a.length = b.length) : ∀ (r q : List DecL) (k m : Nat),a.drop k = r→b.drop k = q→r.length < m →
    F.zd.L4 n k0 kr m a b (a.length : Int) (k : Int) = if r = q then k0 () else kr false:=by
  intro r
  induction r with
  | nil =>
    intro q k m hk hq hm
    have:=zm hk
    obtain ⟨m,rfl⟩ : ∃ q,m = q + 1:=⟨m - 1,by omega⟩
    have : q = []:=by rw [← hq]; exact List.drop_eq_nil_of_le (by omega)
    show F.zd.L4.step n (F.zd.L4 n k0 kr m) k0 kr a b _ _ = _
    unfold F.zd.L4.step
    rw [zg (by omega),if_pos this.symm]
  | cons x r ih =>
    intro q k m hk hq hm
    obtain ⟨h1,h2,h3⟩:=zk hk
    obtain ⟨m,rfl⟩ : ∃ q,m = q + 1:=⟨m - 1,by omega⟩
    have hd : b.drop k = b[k] :: b.drop (k + 1):=List.drop_eq_getElem_cons (by omega)
    rw [hd] at hq
    subst hq
    show F.zd.L4.step n (F.zd.L4 n k0 kr m) k0 kr a b _ _ = _
    unfold F.zd.L4.step
    rw [zd (by omega),zr,h2,za,zcc (by omega : k < b.length),za,zva]
    by_cases hx : x = b[k]
    · rw [decide_eq_true hx,Bool.not_true,cond_false,zh (by omega),ih (b.drop (k + 1)) (k + 1) m h3 rfl (by simp at hm; omega)]
      by_cases hr : r = b.drop (k + 1)
      · rw [if_pos hr,if_pos (by rw [hx,← hr])]
      · rw [if_neg hr,if_neg (fun h => hr (List.cons.inj h).2)]
    · rw [decide_eq_false hx,if_neg (fun h => hx (List.cons.inj h).1)]; rfl
theorem zma (n : Nat) (X : Type) (k0 : Unit→Option X) (kr : Bool→Option X) (a b : List TagL) (ha : a.length ≤ 10000) (hl : a.length = b.length) : ∀ (r q : List TagL) (k m : Nat),a.drop k = r→b.drop k = q→r.length < m →
    F.ze.L4 n k0 kr m a b (a.length : Int) (k : Int) = if r = q then k0 () else kr false:=by
  intro r
  induction r with
  | nil =>
    intro q k m hk hq hm
    have:=zm hk
    obtain ⟨m,rfl⟩ : ∃ q,m = q + 1:=⟨m - 1,by omega⟩
    have : q = []:=by rw [← hq]; exact List.drop_eq_nil_of_le (by omega)
    show F.ze.L4.step n (F.ze.L4 n k0 kr m) k0 kr a b _ _ = _
    unfold F.ze.L4.step
    rw [zg (by omega),if_pos this.symm]
  | cons x r ih =>
    intro q k m hk hq hm
    obtain ⟨h1,h2,h3⟩:=zk hk
    obtain ⟨m,rfl⟩ : ∃ q,m = q + 1:=⟨m - 1,by omega⟩
    have hd : b.drop k = b[k] :: b.drop (k + 1):=List.drop_eq_getElem_cons (by omega)
    rw [hd] at hq
    subst hq
    show F.ze.L4.step n (F.ze.L4 n k0 kr m) k0 kr a b _ _ = _
    unfold F.ze.L4.step
    rw [zd (by omega),zr,h2,za,zcc (by omega : k < b.length),za,zl9]
    by_cases hx : x = b[k]
    · rw [decide_eq_true hx,Bool.not_true,cond_false,zh (by omega),ih (b.drop (k + 1)) (k + 1) m h3 rfl (by simp at hm; omega)]
      by_cases hr : r = b.drop (k + 1)
      · rw [if_pos hr,if_pos (by rw [hx,← hr])]
      · rw [if_neg hr,if_neg (fun h => hr (List.cons.inj h).2)]
    · rw [decide_eq_false hx,if_neg (fun h => hx (List.cons.inj h).1)]; rfl
theorem zx6 (n : Nat) (hn : 200000 ≤ n) (a b : List DecL) (ha : a.length ≤ 10000) : F.zau n a b = some (decide (a = b)):=by
  unfold F.zau F.zd
  by_cases hl : a.length = b.length
  · have e : ((a.length : Int) == (b.length : Int)) = true:=by simp [hl]
    rw [e,Bool.not_true,cond_false]
    have L:=zsb n Bool (fun (_ : Unit) => some (true)) (fun e4_4 => some (e4_4)) a b ha hl a b 0 n rfl rfl (by omega)
    rw [show ((0 : Nat) : Int) = (0 : Int) from rfl] at L
    rw [L]
    by_cases h : a = b
    · rw [if_pos h,decide_eq_true h]; rfl
    · rw [if_neg h,decide_eq_false h]; rfl
  · have e : ((a.length : Int) == (b.length : Int)) = false:=by rw [beq_eq_false_iff_ne]; omega
    rw [e,decide_eq_false (fun h => hl (by rw [h]))]; rfl
theorem zx7 (n : Nat) (hn : 200000 ≤ n) (a b : List TagL) (ha : a.length ≤ 10000) : F.zav n a b = some (decide (a = b)):=by
  unfold F.zav F.ze
  by_cases hl : a.length = b.length
  · have e : ((a.length : Int) == (b.length : Int)) = true:=by simp [hl]
    rw [e,Bool.not_true,cond_false]
    have L:=zma n Bool (fun (_ : Unit) => some (true)) (fun e4_4 => some (e4_4)) a b ha hl a b 0 n rfl rfl (by omega)
    rw [show ((0 : Nat) : Int) = (0 : Int) from rfl] at L
    rw [L]
    by_cases h : a = b
    · rw [if_pos h,decide_eq_true h]; rfl
    · rw [if_neg h,decide_eq_false h]; rfl
  · have e : ((a.length : Int) == (b.length : Int)) = false:=by rw [beq_eq_false_iff_ne]; omega
    rw [e,decide_eq_false (fun h => hl (by rw [h]))]; rfl
noncomputable def eqM (a b : MetD) : Bool:=@decide (a = b) (Classical.propDecidable _)
theorem zoq {a b : MetD} (h : a = b) : eqM a b = true:=@decide_eq_true _ (Classical.propDecidable _) h
theorem zx8 {a b : MetD} (h : ¬ a = b) : eqM a b = false:=@decide_eq_false _ (Classical.propDecidable _) h
theorem zvb (n : Nat) (hn : 200000 ≤ n) (a b : MetD) (h1 : a.2.2.1.length ≤ 10000) (h2 : a.2.2.2.2.1.length ≤ 10000) : F.za9 n a b = some (eqM a b):=by
  obtain ⟨a1,a2,a3,a4,a5,a6,_⟩:=a
  obtain ⟨b1,b2,b3,b4,b5,b6,_⟩:=b
  simp only at h1 h2
  unfold F.za9
  simp only [zx6 n hn a3 b3 h1,zx7 n hn a5 b5 h2,za]
  by_cases h : ((a1,a2,a3,a4,a5,a6,()) : MetD) = (b1,b2,b3,b4,b5,b6,())
  · rw [zoq h]
    simp only [Prod.mk.injEq] at h
    obtain ⟨rfl,rfl,rfl,rfl,rfl,rfl,_⟩:=h
    simp
  · rw [zx8 h]
    by_cases g1 : a1 = b1
    · by_cases g2 : a2 = b2
      · by_cases g4 : a4 = b4
        · by_cases g6 : a6 = b6
          · by_cases g3 : a3 = b3
            · by_cases g5 : a5 = b5
              · exact absurd (by rw [g1,g2,g3,g4,g5,g6]) h
              · simp [g1,g2,g4,g6,g3,g5]
            · simp [g1,g2,g4,g6,g3]
          · rw [beq_eq_false_iff_ne.2 g6]; simp [g1,g2,g4]
        · rw [beq_eq_false_iff_ne.2 g4]; simp [g1,g2]
      · rw [beq_eq_false_iff_ne.2 g2]; simp [g1]
    · rw [beq_eq_false_iff_ne.2 g1]; rfl
end Go.AM
set_option linter.unusedVariables false
set_option linter.unusedSimpArgs false
namespace Go.AM
theorem zg2 {s : List UInt8} (h : (parseR s).2.1.1 = 0) : ∃ (neg : Bool) (c : Nat) (e : Int),parseR s = ((neg,(c : Int),e,()),(0,0,()),()) ∧ c < two64 ∧ (-9223372036854775808 ≤ e ∧ e ≤ 9223372036854775807) ∧ checkR neg c e = 0:=by
  rcases znm s with ⟨h1,_⟩ | h1
  · exact absurd h h1
  · exact h1
theorem zhy {s : List UInt8} {neg : Bool} {c : Nat} {e : Int} (h : parseR s = ((neg,(c : Int),e,()),(0,0,()),())) : (textD neg c e).length ≤ s.length ∧ (neg = true→s.head? = some 45):=by
  have h0 : (lookR s).1 = 0:=by
    apply Classical.byContradiction
    intro hh
    have : parseR s = badR (lookR s):=by unfold parseR; rw [if_neg hh]
    rw [this] at h
    exact hh (congrArg (fun r : ParseR => r.2.1.1) h)
  obtain ⟨_,hA,hsp⟩:=zio h0
  have hp : parseR s = outR (valR (negD s) (aheadD s ++ behindD s) (-((behindD s).length : Int))):=by unfold parseR; rw [if_pos h0]
  rw [hp] at h
  have hD : Digs (aheadD s ++ behindD s):=zl.2 ⟨zcv _,zdp s⟩
  have hs : s.length = p0 s + (s.drop (p0 s)).length:=by have:=zkl s; simp; omega
  have hpn : p0 s = (sgn (negD s)).length:=by
    unfold p0 negD sgn
    by_cases hh : s.head? = some 45
    · rw [if_pos hh,decide_eq_true hh]; rfl
    · rw [if_neg hh,decide_eq_false hh]; rfl
  have hng : negD s = true→s.head? = some 45:=fun hh => by unfold negD at hh; simpa using hh
  generalize aheadD s = A at *
  generalize hBB : behindD s = B at *
  have hAl : 0 < A.length:=List.length_pos_iff.2 hA
  by_cases hv : val (A ++ B) = 0
  · have hz : valR (negD s) (A ++ B) (-(B.length : Int)) = zeroD:=by unfold valR; rw [if_pos hv]
    rw [hz] at h
    have h1 : neg = false:=(congrArg (fun r : ParseR => r.1.1) h).symm
    have h2 : (c : Int) = 0:=(congrArg (fun r : ParseR => r.1.2.1) h).symm
    have h3 : e = 0:=(congrArg (fun r : ParseR => r.1.2.2.1) h).symm
    have h2' : c = 0:=by omega
    subst h1 h2' h3
    refine ⟨?_,fun hh => by cases hh⟩
    have d0 : Lib.decDigits 0 = [48]:=zbn (by omega)
    have : (textD false 0 0).length = 1:=by unfold textD; rw [d0]; rfl
    rw [this]
    rcases hsp with ⟨h1,_⟩ | ⟨h1,_⟩
    · rw [h1] at hs; omega
    · rw [h1] at hs; simp only [List.length_append,List.length_cons] at hs; omega
  · obtain ⟨c0,z,h1,h2⟩:=zbd (val (A ++ B)) (by omega)
    rw [zac hD h2 h1] at h
    have key : ∃ k : Nat,(k : Int) = e + B.length ∧ c * 10 ^ k = val (A ++ B) ∧ neg = negD s:=by
      unfold normR at h
      split at h
      · unfold outR at h
        rw [if_neg (by decide)] at h
        have hx : (10 : Int) = 0:=congrArg (fun r : ParseR => r.2.1.1) h
        omega
      · rename_i g1
        split at h
        · unfold outR at h
          rw [if_pos rfl] at h
          have q1 : negD s = neg:=congrArg (fun r : ParseR => r.1.1) h
          have q2 : ((c0 * 10 ^ (-(B.length : Int) + (z : Int) - 18).toNat : Nat) : Int) = (c : Int):=congrArg (fun r : ParseR => r.1.2.1) h
          have q3 : (if -(B.length : Int) + (z : Int) ≤ 18 then -(B.length : Int) + (z : Int) else 18) = e:=congrArg (fun r : ParseR => r.1.2.2.1) h
          have q2' : c = c0 * 10 ^ (-(B.length : Int) + (z : Int) - 18).toNat:=by omega
          by_cases g2 : -(B.length : Int) + (z : Int) ≤ 18
          · rw [if_pos g2] at q3
            refine ⟨z,by omega,?_,q1.symm⟩
            rw [h1,q2',show (-(B.length : Int) + (z : Int) - 18).toNat = 0 from by omega]
            simp
          · rw [if_neg g2] at q3
            refine ⟨18 + B.length,by omega,?_,q1.symm⟩
            rw [h1,q2',Nat.mul_assoc,← Nat.pow_add]
            congr 2
            omega
        · unfold outR at h
          rw [if_neg (by decide)] at h
          have hx : (10 : Int) = 0:=congrArg (fun r : ParseR => r.2.1.1) h
          omega
    obtain ⟨k,k1,k2,k3⟩:=key
    have hc0 : 0 < c:=by
      rcases Nat.eq_zero_or_pos c with h | h
      · rw [h] at k2; omega
      · exact h
    have hlt:=zc0 hD
    have hge:=zy5 hc0
    have hL : 0 < (Lib.decDigits c).length:=List.length_pos_iff.2 (zde c)
    have hlen : (Lib.decDigits c).length - 1 + k < (A ++ B).length:=by
      have h4 : 10 ^ ((Lib.decDigits c).length - 1 + k) ≤ val (A ++ B):=by
        rw [Nat.pow_add,← k2]
        exact Nat.mul_le_mul_right _ hge
      exact (Nat.pow_lt_pow_iff_right (by omega : 1 < 10)).1 (Nat.lt_of_le_of_lt h4 hlt)
    rw [List.length_append] at hlen
    subst k3
    refine ⟨?_,hng⟩
    unfold textD
    by_cases hE : 0 ≤ e
    · rw [if_pos hE]
      have : (sgn (negD s) ++ (Lib.decDigits c ++ List.replicate e.toNat 48)).length = p0 s + ((Lib.decDigits c).length + e.toNat):=by rw [hpn]; simp
      rw [this]
      rcases hsp with ⟨h1,h6⟩ | ⟨h1,h6⟩
      · rw [h1] at hs; omega
      · rw [h1] at hs; simp only [List.length_append,List.length_cons] at hs; omega
    · rw [if_neg hE]
      have hBn : 0 < B.length:=by omega
      have hw : (wideW c e).length = (1 - e - (Lib.decDigits c).length).toNat + (Lib.decDigits c).length:=by unfold wideW; simp
      have : (sgn (negD s) ++ ((wideW c e).take ((wideW c e).length - e.natAbs) ++ [46] ++ (wideW c e).drop ((wideW c e).length - e.natAbs))).length = p0 s + ((wideW c e).length + 1):=by
        rw [hpn]
        simp
        omega
      rw [this]
      rcases hsp with ⟨h1,h6⟩ | ⟨h1,h6⟩
      · rw [h6] at hBn; simp at hBn
      · rw [h1] at hs
        simp at hs
        omega
theorem zbj (neg : Bool) (c : Nat) (e : Int) : ∀ b ∈ textD neg c e,(b = 45 ∧ neg = true) ∨ isDig b = true ∨ b = 46:=by
  intro b hb
  have hsg : ∀ b ∈ sgn neg,b = 45 ∧ neg = true:=by
    intro b hb
    cases neg
    · simp [sgn] at hb
    · simp [sgn] at hb; exact ⟨hb,rfl⟩
  have hdg : ∀ (l : List UInt8),Digs l→∀ b ∈ l,isDig b = true:=fun l hl b hb => List.all_eq_true.1 hl b hb
  unfold textD at hb
  split at hb
  · rcases List.mem_append.1 hb with h | h
    · exact Or.inl (hsg b h)
    · exact Or.inr (Or.inl (hdg _ (zl.2 ⟨zaa c,zal _⟩) b h))
  · rcases List.mem_append.1 hb with h | h
    · exact Or.inl (hsg b h)
    · have w3 : Digs (wideW c e):=zl.2 ⟨zal _,zaa c⟩
      rcases List.mem_append.1 h with h | h
      · rcases List.mem_append.1 h with h | h
        · exact Or.inr (Or.inl (hdg _ (zff _ w3) b h))
        · exact Or.inr (Or.inr (by simpa using h))
      · exact Or.inr (Or.inl (hdg _ (zjo _ w3) b h))
theorem zhz (neg : Bool) (c : Nat) (e : Int) : (124 : UInt8) ∉ textD neg c e:=by
  intro h
  rcases zbj neg c e _ h with h | h | h
  · exact absurd h.1 (by decide)
  · exact absurd h (by decide)
  · exact absurd h (by decide)
theorem zpo (c : Nat) (e : Int) : ¬ (textD false c e).head? = some 45:=by
  intro h
  have hm : (45 : UInt8) ∈ textD false c e:=List.mem_of_mem_head? (by rw [h]; rfl)
  rcases zbj false c e _ hm with h | h | h
  · cases h.2
  · exact absurd h (by decide)
  · exact absurd h (by decide)
theorem zsc {l : List UInt8} (h : Digs l) : (124 : UInt8) ∉ l:=fun hm => absurd (List.all_eq_true.1 h _ hm) (by decide)
end Go.AM
set_option linter.unusedVariables false
set_option linter.unusedSimpArgs false
namespace Go.AM
abbrev timeR (s : List UInt8) : NumR:=parseNum s 1 1099511627776
abbrev OkG (name : List UInt8) (d : DecL) (t : Int) : MetR:=((name,2,[d],1000000,[],t,()),(0,0,()),())
def timeS (name : List UInt8) (d : DecL) (u : List UInt8) (p : Nat) : MetR:=
  if ¬ (timeR (seg 32 u)).2.1.1 = 0 then badM 20 (p : Int) else if 32 ∈ u then badM 11 ((p + (seg 32 u).length : Nat) : Int) else OkG name d (timeR (seg 32 u)).1
def valueG (name : List UInt8) (u : List UInt8) (p : Nat) : MetR:=
  if ¬ (parseR (seg 32 u)).2.1.1 = 0 then badM 17 (p : Int) else if ¬ 32 ∈ u then badM 11 ((p + (seg 32 u).length : Nat) : Int)
  else timeS name ((parseR (seg 32 u)).1.1,(parseR (seg 32 u)).1.2.1,(parseR (seg 32 u)).1.2.2.1) (u.drop ((seg 32 u).length + 1)) (p + (seg 32 u).length + 1)
def grParse (s : List UInt8) : MetR:=
  if nameOK (seg 32 s) = false then badM 15 0 else if ¬ 32 ∈ s then badM 11 ((seg 32 s).length : Int) else valueG (seg 32 s) (s.drop ((seg 32 s).length + 1)) ((seg 32 s).length + 1)
theorem znn {s : List UInt8} {lo hi : Int} (h : (parseNum s lo hi).2.1.1 = 0) : (parseNum s lo hi).2.1.2.1 = 0:=(zcq h).1
theorem zgk {c a : Int} (h : c = 0→a = 0) : (!((c == 0) && (a == 0))) = !(c == 0):=by
  by_cases hc : c = 0
  · rw [hc,h hc]; rfl
  · rw [beq_eq_false_iff_ne.2 hc]; rfl
section
variable {X : Type} (n : Nat) (rec : Int→Int→Bool→List UInt8→Int→List DecL→Int→List TagL→Int→Int→Int→List UInt8→Int→List DecL→Int→List TagL→Int→Int→Int→List UInt8→Nat→Nat→Nat→Nat→Option X)
  (k0 kr : List UInt8→Int→List DecL→Int→List TagL→Int→Int→Int→List UInt8→Int→List DecL→Int→List TagL→Int→Int→Int→List UInt8→Nat→Nat→Nat→Nat→Option X)
  (b0 : List UInt8) (b1 : Int) (b2 : List DecL) (b3 : Int) (b4 : List TagL) (b5 b6 b7 : Int) (nm : List UInt8) (kd : Int) (vs : List DecL) (rt : Int) (ts : List TagL) (tm c a : Int) (s : List UInt8) (i0 i1 i2 i3 : Nat)
theorem zy6 (p i : Int) : F.zl.L2_graphite_cut_1.step n rec k0 kr p i false b0 b1 b2 b3 b4 b5 b6 b7 nm kd vs rt ts tm c a s i0 i1 i2 i3 = k0 b0 b1 b2 b3 b4 b5 b6 b7 nm kd vs rt ts tm c a s i0 i1 i2 i3:=rfl
theorem zvc (hn : 200000 ≤ n) (p : Nat) (hp : p ≤ s.length) (hs : s.length ≤ 10000) :
    F.zl.L2_graphite_cut_1.step n rec k0 kr (p : Int) 0 true b0 b1 b2 b3 b4 b5 b6 b7 nm kd vs rt ts tm c a s i0 i1 i2 i3 =
      (if nameOK (seg 32 (s.drop p)) = false then kr b0 b1 b2 b3 b4 b5 b6 b7 (seg 32 (s.drop p)) kd vs rt ts tm 15 (p : Int) s i0 i1 i2 i3
      else if ¬ 32 ∈ s.drop p then kr b0 b1 b2 b3 b4 b5 b6 b7 (seg 32 (s.drop p)) kd vs rt ts tm 11 ((p + (seg 32 (s.drop p)).length : Nat) : Int) s i0 i1 i2 i3
      else rec ((p + (seg 32 (s.drop p)).length + 1 : Nat) : Int) 1 true b0 b1 b2 b3 b4 b5 b6 b7 (seg 32 (s.drop p)) kd vs rt ts tm c a s i0 i1 i2 i3):=by
  unfold F.zl.L2_graphite_cut_1.step
  have hl:=zam 32 (s.drop p)
  simp only [List.length_drop] at hl
  rw [cond_true,zbf hp,za,zby n 32 (by simp; omega),za]
  simp only [beq_self_eq_true,cond_true]
  rw [zbe n 1 _ 1 200 (by omega) (by omega),za,zcp]
  have e1 : ((textF 1 (seg 32 (s.drop p)) 1 200).1 == 0) = nameOK (seg 32 (s.drop p)):=rfl
  have w1 : IntKind.wrap .i64 ((p : Int) + ((seg 32 (s.drop p)).length : Int)) = ((p + (seg 32 (s.drop p)).length : Nat) : Int):=by rw [zi (by omega)]; omega
  have w2 : IntKind.wrap .i64 ((p : Int) + (IntKind.wrap .i64 (((seg 32 (s.drop p)).length : Int) + (1 : Int)))) = ((p + (seg 32 (s.drop p)).length + 1 : Nat) : Int):=by rw [zi (x:=((seg 32 (s.drop p)).length : Int) + 1) (by omega),zi (by omega)]; omega
  have w3 : IntKind.wrap .i64 ((0 : Int) + 1) = 1:=rfl
  rw [e1,w1,w2,w3]
  cases nameOK (seg 32 (s.drop p))
  · rfl
  · have d2 : decide ((0 : Int) < 2) = true:=rfl
    rw [Bool.not_true,cond_false,if_neg (by simp),d2]
    by_cases hm : 32 ∈ s.drop p
    · rw [decide_eq_true hm,if_neg (fun h => h hm)]; rfl
    · rw [decide_eq_false hm,if_pos hm]; rfl
theorem zvd (hn : 200000 ≤ n) (p : Nat) (hp : p ≤ s.length) (hs : s.length ≤ 10000) :
    F.zl.L2_graphite_cut_1.step n rec k0 kr (p : Int) 1 true b0 b1 b2 b3 b4 b5 b6 b7 nm kd vs rt ts tm c a s i0 i1 i2 i3 =
      (if ¬ (parseR (seg 32 (s.drop p))).2.1.1 = 0 then kr b0 b1 b2 b3 b4 b5 b6 b7 nm kd vs rt ts tm 17 (p : Int) s i0 i1 i2 i3
      else if ¬ 32 ∈ s.drop p then kr b0 b1 b2 b3 b4 b5 b6 b7 nm kd [((parseR (seg 32 (s.drop p))).1.1,(parseR (seg 32 (s.drop p))).1.2.1,(parseR (seg 32 (s.drop p))).1.2.2.1)] rt ts tm 11 ((p + (seg 32 (s.drop p)).length : Nat) : Int) s i0 i1 1 i3
      else rec ((p + (seg 32 (s.drop p)).length + 1 : Nat) : Int) 2 true b0 b1 b2 b3 b4 b5 b6 b7 nm kd [((parseR (seg 32 (s.drop p))).1.1,(parseR (seg 32 (s.drop p))).1.2.1,(parseR (seg 32 (s.drop p))).1.2.2.1)] rt ts tm c a s i0 i1 1 i3):=by
  unfold F.zl.L2_graphite_cut_1.step
  have hl:=zam 32 (s.drop p)
  simp only [List.length_drop] at hl
  rw [cond_true,zbf hp,za,zby n 32 (by simp; omega),za]
  have g1 : ((1 : Int) == 0) = false:=rfl
  simp only [beq_self_eq_true,cond_true,g1,cond_false]
  have w1 : IntKind.wrap .i64 ((p : Int) + ((seg 32 (s.drop p)).length : Int)) = ((p + (seg 32 (s.drop p)).length : Nat) : Int):=by rw [zi (by omega)]; omega
  have w2 : IntKind.wrap .i64 ((p : Int) + (IntKind.wrap .i64 (((seg 32 (s.drop p)).length : Int) + (1 : Int)))) = ((p + (seg 32 (s.drop p)).length + 1 : Nat) : Int):=by rw [zi (x:=((seg 32 (s.drop p)).length : Int) + 1) (by omega),zi (by omega)]; omega
  have w3 : IntKind.wrap .i64 ((1 : Int) + 1) = 2:=rfl
  rw [zdq n hn _ (by omega),za,zgk (fun h => zce h),w1,w2,w3]
  by_cases h0 : (parseR (seg 32 (s.drop p))).2.1.1 = 0
  · have e0 : ((parseR (seg 32 (s.drop p))).2.1.1 == 0) = true:=by simp [h0]
    have d2 : decide ((1 : Int) < 2) = true:=rfl
    rw [e0,Bool.not_true,cond_false,if_neg (fun h => h h0),d2]
    by_cases hm : 32 ∈ s.drop p
    · rw [decide_eq_true hm,if_neg (fun h => h hm)]; rfl
    · rw [decide_eq_false hm,if_pos hm]; rfl
  · have e0 : ((parseR (seg 32 (s.drop p))).2.1.1 == 0) = false:=by simpa using h0
    rw [e0,if_pos h0]; rfl
theorem zve (hn : 200000 ≤ n) (p : Nat) (hp : p ≤ s.length) (hs : s.length ≤ 10000) :
    F.zl.L2_graphite_cut_1.step n rec k0 kr (p : Int) 2 true b0 b1 b2 b3 b4 b5 b6 b7 nm kd vs rt ts tm c a s i0 i1 i2 i3 =
      (if ¬ (timeR (seg 32 (s.drop p))).2.1.1 = 0 then kr b0 b1 b2 b3 b4 b5 b6 b7 nm kd vs rt ts tm 20 (p : Int) s i0 i1 i2 i3
      else if 32 ∈ s.drop p then kr b0 b1 b2 b3 b4 b5 b6 b7 nm kd vs rt ts (timeR (seg 32 (s.drop p))).1 11 ((p + (seg 32 (s.drop p)).length : Nat) : Int) s i0 i1 i2 i3
      else rec ((p + (seg 32 (s.drop p)).length + 1 : Nat) : Int) 3 false b0 b1 b2 b3 b4 b5 b6 b7 nm kd vs rt ts (timeR (seg 32 (s.drop p))).1 c a s i0 i1 i2 i3):=by
  unfold F.zl.L2_graphite_cut_1.step
  have hl:=zam 32 (s.drop p)
  simp only [List.length_drop] at hl
  rw [cond_true,zbf hp,za,zby n 32 (by simp; omega),za]
  have g1 : ((2 : Int) == 0) = false:=rfl
  have g2 : ((2 : Int) == 1) = false:=rfl
  simp only [g1,g2,cond_false]
  have w1 : IntKind.wrap .i64 ((p : Int) + ((seg 32 (s.drop p)).length : Int)) = ((p + (seg 32 (s.drop p)).length : Nat) : Int):=by rw [zi (by omega)]; omega
  have w2 : IntKind.wrap .i64 ((p : Int) + (IntKind.wrap .i64 (((seg 32 (s.drop p)).length : Int) + (1 : Int)))) = ((p + (seg 32 (s.drop p)).length + 1 : Nat) : Int):=by rw [zi (x:=((seg 32 (s.drop p)).length : Int) + 1) (by omega),zi (by omega)]; omega
  have w3 : IntKind.wrap .i64 ((2 : Int) + 1) = 3:=rfl
  rw [zop n _ (by omega) (by omega),za,zgk (fun h => znn h),w1,w2,w3]
  by_cases h0 : (timeR (seg 32 (s.drop p))).2.1.1 = 0
  · have e0 : ((timeR (seg 32 (s.drop p))).2.1.1 == 0) = true:=by simp [h0]
    have d2 : decide ((2 : Int) < 2) = false:=rfl
    rw [e0,Bool.not_true,cond_false,if_neg (fun h => h h0),d2]
    by_cases hm : 32 ∈ s.drop p
    · rw [decide_eq_true hm,if_pos hm]; rfl
    · rw [decide_eq_false hm,if_neg hm]; rfl
  · have e0 : ((timeR (seg 32 (s.drop p))).2.1.1 == 0) = false:=by simpa using h0
    rw [e0,if_pos h0]; rfl
end
theorem zpp (n : Nat) (hn : 200000 ≤ n) (s : List UInt8) (hs : s.length ≤ 10000) : F.zl n s = some (grParse s):=by
  unfold F.zl
  generalize hk0 : (fun (e6_b0_0 : List UInt8) (e6_b0_1 : Int) (e6_b0_2 : List DecL) (e6_b0_3 : Int) (e6_b0_4 : List TagL) (e6_b0_5 e6_b1_0 e6_b1_1 : Int) (e6_b2_0 : List UInt8) (e6_b2_1 : Int) (e6_b2_2 : List DecL) (e6_b2_3 : Int) (e6_b2_4 : List TagL) (e6_b2_5 e6_b3_0 e6_b3_1 : Int) (e6_b4_0 : List UInt8) (e6_k0 e6_k1 e6_k2 e6_k3 : Nat) =>
      bif !((e6_b3_0 == (0 : Int)) && (e6_b3_1 == (0 : Int))) then
        some (((([],(0 : Int),[],(0 : Int),[],(0 : Int),()),(e6_b3_0,e6_b3_1,()),()) : MetR))
      else
        some (((e6_b2_0,e6_b2_1,e6_b2_2,e6_b2_3,e6_b2_4,e6_b2_5,()),(e6_b3_0,e6_b3_1,()),()))) = k0
  have hbad : ∀ (b0 : List UInt8) (b1 : Int) (b2 : List DecL) (b3 : Int) (b4 : List TagL) (b5 b6 b7 : Int) (nm : List UInt8) (kd : Int) (vs : List DecL) (rt : Int) (ts : List TagL) (tm c a : Int) (s : List UInt8) (i0 i1 i2 i3 : Nat),¬ c = 0→k0 b0 b1 b2 b3 b4 b5 b6 b7 nm kd vs rt ts tm c a s i0 i1 i2 i3 = some (badM c a):=by
    intro b0 b1 b2 b3 b4 b5 b6 b7 nm kd vs rt ts tm c a s i0 i1 i2 i3 hc
    rw [← hk0]
    simp only
    rw [beq_eq_false_iff_ne.2 hc]; rfl
  have hok : ∀ (b0 : List UInt8) (b1 : Int) (b2 : List DecL) (b3 : Int) (b4 : List TagL) (b5 b6 b7 : Int) (nm : List UInt8) (kd : Int) (vs : List DecL) (rt : Int) (ts : List TagL) (tm : Int) (s : List UInt8) (i0 i1 i2 i3 : Nat),k0 b0 b1 b2 b3 b4 b5 b6 b7 nm kd vs rt ts tm 0 0 s i0 i1 i2 i3 = some ((nm,kd,vs,rt,ts,tm,()),(0,0,()),()):=by
    intro b0 b1 b2 b3 b4 b5 b6 b7 nm kd vs rt ts tm s i0 i1 i2 i3
    rw [← hk0]; rfl
  obtain ⟨q,hq⟩ : ∃ q,n = q + 1 + 1 + 1 + 1:=⟨n - 4,by omega⟩
  have st : ∀ m p i b b0 b1 b2 b3 b4 b5 b6 b7 nm kd vs rt ts tm c a s i0 i1 i2 i3,F.zl.L2_graphite_cut_1 n k0 k0 (m + 1) p i b b0 b1 b2 b3 b4 b5 b6 b7 nm kd vs rt ts tm c a s i0 i1 i2 i3 = F.zl.L2_graphite_cut_1.step n (F.zl.L2_graphite_cut_1 n k0 k0 m) k0 k0 p i b b0 b1 b2 b3 b4 b5 b6 b7 nm kd vs rt ts tm c a s i0 i1 i2 i3:=fun _ _ _ _ _ _ _ _ _ _ _ _ _ _ _ _ _ _ _ _ _ _ _ _ _ => rfl
  have key : F.zl.L2_graphite_cut_1 n k0 k0 (q + 1 + 1 + 1 + 1) 0 0 true [] 0 [] 0 [] 0 0 0 [] 2 [] 1000000 [] 0 0 0 s 0 0 0 0 = some (grParse s):=by
    have hl:=zam 32 s
    have r0:=zvc n (F.zl.L2_graphite_cut_1 n k0 k0 (q + 1 + 1 + 1)) k0 k0 [] 0 [] 0 [] 0 0 0 [] 2 [] 1000000 [] 0 0 0 s 0 0 0 0 hn 0 (by omega) hs
    rw [st]
    refine r0.trans ?_
    rw [List.drop_zero,Nat.zero_add]
    unfold grParse
    by_cases h1 : nameOK (seg 32 s) = false
    · rw [if_pos h1,if_pos h1]; exact hbad _ _ _ _ _ _ _ _ _ _ _ _ _ _ _ _ _ _ _ _ _ (by decide)
    rw [if_neg h1,if_neg h1]
    by_cases h2 : ¬ 32 ∈ s
    · rw [if_pos h2,if_pos h2]; exact hbad _ _ _ _ _ _ _ _ _ _ _ _ _ _ _ _ _ _ _ _ _ (by decide)
    rw [if_neg h2,if_neg h2]
    have hlt:=za6 (Classical.not_not.1 h2)
    generalize hA : (seg 32 s).length = A at *
    have hl2:=zam 32 (s.drop (A + 1))
    simp only [List.length_drop] at hl2
    rw [st,zvd n _ k0 k0 _ _ _ _ _ _ _ _ _ _ _ _ _ _ _ _ s _ _ _ _ hn (A + 1) (by omega) hs]
    unfold valueG
    by_cases h3 : ¬ (parseR (seg 32 (s.drop (A + 1)))).2.1.1 = 0
    · rw [if_pos h3,if_pos h3]; exact hbad _ _ _ _ _ _ _ _ _ _ _ _ _ _ _ _ _ _ _ _ _ (by decide)
    rw [if_neg h3,if_neg h3]
    by_cases h4 : ¬ 32 ∈ s.drop (A + 1)
    · rw [if_pos h4,if_pos h4]; exact hbad _ _ _ _ _ _ _ _ _ _ _ _ _ _ _ _ _ _ _ _ _ (by decide)
    rw [if_neg h4,if_neg h4]
    have hlt2:=za6 (Classical.not_not.1 h4)
    simp only [List.length_drop] at hlt2
    have hd2 : (s.drop (A + 1)).drop ((seg 32 (s.drop (A + 1))).length + 1) = s.drop (A + 1 + (seg 32 (s.drop (A + 1))).length + 1):=by rw [List.drop_drop]; rfl
    rw [hd2]
    generalize hB : A + 1 + (seg 32 (s.drop (A + 1))).length = B at *
    rw [st,zve n _ k0 k0 _ _ _ _ _ _ _ _ _ _ _ _ _ _ _ _ s _ _ _ _ hn (B + 1) (by omega) hs]
    unfold timeS
    by_cases h5 : ¬ (timeR (seg 32 (s.drop (B + 1)))).2.1.1 = 0
    · rw [if_pos h5,if_pos h5]; exact hbad _ _ _ _ _ _ _ _ _ _ _ _ _ _ _ _ _ _ _ _ _ (by decide)
    rw [if_neg h5,if_neg h5]
    by_cases h6 : 32 ∈ s.drop (B + 1)
    · rw [if_pos h6,if_pos h6]; exact hbad _ _ _ _ _ _ _ _ _ _ _ _ _ _ _ _ _ _ _ _ _ (by decide)
    rw [if_neg h6,if_neg h6,st,zy6]
    exact hok _ _ _ _ _ _ _ _ _ _ _ _ _ _ _ _ _ _ _
  rw [← hq] at key
  exact key
end Go.AM
set_option linter.unusedVariables false
set_option linter.unusedSimpArgs false
namespace Go.AM
def lineG (m : MetD) : List UInt8:=m.1 ++ [32] ++ valL m.2.2.1 ++ [32] ++ Lib.decDigits m.2.2.2.2.2.1.toNat
def lineGR (m : MetD) : List UInt8 × Int × Unit:=if expM m 3 = 0 then (lineG m,0,()) else ([],expM m 3,())
theorem zdr {m : MetD} (h : expM m 3 = 0) : ∃ nm d t,m = (nm,2,[d],1000000,[],t,()) ∧ nameOK nm = true ∧ decC d = 0 ∧ 1 ≤ t ∧ t ≤ 1099511627776:=by
  obtain ⟨nm,k,vs,r,ts,t,_⟩:=m
  unfold expM at h
  rw [if_neg (by omega)] at h
  by_cases h0 : chkM (nm,k,vs,r,ts,t,()) = 0
  · rw [if_pos h0] at h
    have hs : saysG (nm,k,vs,r,ts,t,()) = true:=by
      cases e : saysM (nm,k,vs,r,ts,t,()) 3
      · rw [e] at h; cases h
      · exact e
    obtain ⟨c1,c2,c3,c4,c5,c6⟩:=zbp h0
    simp only at c1 c2 c3 c4 c5 c6
    unfold saysG at hs
    simp only [Bool.and_eq_true,Bool.not_eq_true',beq_iff_eq,beq_eq_false_iff_ne] at hs
    obtain ⟨hb,ht,hk⟩:=hs
    subst hk
    unfold bareM at hb
    simp only [Bool.and_eq_true,decide_eq_true_eq] at hb
    obtain ⟨hv,hg⟩:=hb
    have hg' : ts = []:=List.length_eq_zero_iff.1 hg
    subst hg'
    match vs,hv with
    | [d],_ =>
      unfold valsB at c3
      unfold rateB at c4
      unfold timeB at c6
      simp only [Bool.and_eq_true,decide_eq_true_eq,List.all_cons,List.all_nil,Bool.and_true,beq_iff_eq,Bool.or_eq_true,Bool.not_eq_true',beq_eq_false_iff_ne] at c3 c4 c6
      have hr : r = 1000000:=by
        rcases c4.2.2 with h | h
        · exact absurd rfl h
        · exact h
      subst hr
      exact ⟨nm,d,t,rfl,c1,c3.2.2,by omega,c6.2⟩
  · rw [if_neg h0] at h; exact absurd h h0
theorem zor {t : Int} (h1 : 1 ≤ t) (h2 : t ≤ 1099511627776) : (Lib.decDigits t.toNat).length ≤ 13:=zfg (by omega) (by omega)
theorem zvf {t : Int} (h1 : 1 ≤ t) (h2 : t ≤ 1099511627776) : timeR (Lib.decDigits t.toNat) = numR t 0 0:=by
  show parseNum _ _ _ = _
  rw [zl8 t.toNat (by omega),if_neg (by omega),show ((t.toNat : Nat) : Int) = t from by omega]
theorem zvg (n : Nat) (hn : 200000 ≤ n) (m : MetD) (hm : MetOK m) : F.za4 n m = some (lineGR m):=by
  unfold F.za4 lineGR
  have he : F.zal n (m.1,m.2.1,m.2.2.1,m.2.2.2.1,m.2.2.2.2.1,m.2.2.2.2.2.1,()) (3 : Int) = some (expM m 3):=zir n hn m hm 3
  rw [he,za]
  by_cases h0 : expM m 3 = 0
  · rw [if_pos h0]
    obtain ⟨nm,d,t,rfl,hnm,hd,t1,t2⟩:=zdr h0
    have hdo : DecLOK d:=hm.2.1.2 d (by simp)
    have hn1:=hm.1
    simp only at hn1
    have ht:=zb5 hdo hd
    have hi : idx [d] (0 : Int) = some d:=rfl
    have hnt : numText t = (Lib.decDigits t.toNat,0,()):=by unfold numText; rw [if_neg (by omega)]
    have hl:=zor t1 t2
    rw [h0]
    simp only [za,hi,zef n hn hdo hd,zl7 n t (by omega),hnt]
    unfold lineG valL
    simp only [beq_self_eq_true,Bool.not_true,cond_false]
    rw [zd (by rw [zn]; omega),zd (by rw [zn]; simp; omega),zd (by rw [zn]; simp; omega),zd (by rw [zn]; simp; omega)]
  · rw [beq_eq_false_iff_ne.2 h0,if_neg h0]; rfl
theorem zvh {a b : List UInt8} (ha : (32 : UInt8) ∉ a) (hb : (32 : UInt8) ∉ b) (u : List UInt8) : grParse (a ++ 32 :: (b ++ 32 :: u)) =
    if nameOK a = false then badM 15 0 else if ¬ (parseR b).2.1.1 = 0 then badM 17 ((a.length + 1 : Nat) : Int) else timeS a ((parseR b).1.1,(parseR b).1.2.1,(parseR b).1.2.2.1) u (a.length + 1 + b.length + 1):=by
  unfold grParse
  have h1 : seg 32 (a ++ 32 :: (b ++ 32 :: u)) = a:=zbi ha _
  have h2 : (32 : UInt8) ∈ a ++ 32 :: (b ++ 32 :: u):=by simp
  have h3 : (a ++ 32 :: (b ++ 32 :: u)).drop (a.length + 1) = b ++ 32 :: u:=by rw [← List.drop_drop]; simp
  rw [h1,h3,if_neg (show ¬ ¬ (32 : UInt8) ∈ a ++ 32 :: (b ++ 32 :: u) from fun h => h h2)]
  unfold valueG
  have g1 : seg 32 (b ++ 32 :: u) = b:=zbi hb _
  have g2 : (32 : UInt8) ∈ b ++ 32 :: u:=by simp
  have g3 : (b ++ 32 :: u).drop (b.length + 1) = u:=by rw [← List.drop_drop]; simp
  rw [g1,g3,if_neg (show ¬ ¬ (32 : UInt8) ∈ b ++ 32 :: u from fun h => h g2)]
theorem zpq {s : List UInt8} (h : nameOK s = true) : (32 : UInt8) ∉ s:=by
  rw [zdh] at h
  simp only [Bool.and_eq_true,List.all_eq_true] at h
  intro hm
  have:=h.1 32 hm
  revert this
  decide
theorem zmb (neg : Bool) (c : Nat) (e : Int) : (32 : UInt8) ∉ textD neg c e:=by
  intro h
  rcases zbj neg c e _ h with h | h | h
  · exact absurd h.1 (by decide)
  · exact absurd h (by decide)
  · exact absurd h (by decide)
theorem zno {l : List UInt8} (h : Digs l) : (32 : UInt8) ∉ l:=fun hm => absurd (List.all_eq_true.1 h _ hm) (by decide)
theorem zmc (s : List UInt8) : (∃ c a : Int,grParse s = badM c a ∧ c ≠ 0 ∧ 0 ≤ a ∧ a ≤ s.length) ∨
    (∃ name value time d,s = name ++ 32 :: (value ++ 32 :: time) ∧ nameOK name = true ∧ (32 : UInt8) ∉ name ∧ (32 : UInt8) ∉ value ∧ (32 : UInt8) ∉ time ∧ parseR value = ((d.1,d.2.1,d.2.2,()),(0,0,()),()) ∧ (timeR time).2.1.1 = 0 ∧ grParse s = OkG name d (timeR time).1):=by
  unfold grParse
  have hl:=zam 32 s
  by_cases h1 : nameOK (seg 32 s) = false
  · rw [if_pos h1]
    exact Or.inl ⟨15,0,rfl,by decide,by omega,by omega⟩
  rw [if_neg h1]
  by_cases h2 : ¬ 32 ∈ s
  · rw [if_pos h2]
    exact Or.inl ⟨11,_,rfl,by decide,by omega,by omega⟩
  rw [if_neg h2]
  have h2':=Classical.not_not.1 h2
  have hsp:=zbu h2'
  have hfr:=zg0 32 s
  have hlen:=congrArg List.length hsp
  simp only [List.length_append,List.length_cons] at hlen
  generalize seg 32 s = name at *
  generalize s.drop (name.length + 1) = t at *
  unfold valueG
  have hl2:=zam 32 t
  by_cases h3 : ¬ (parseR (seg 32 t)).2.1.1 = 0
  · rw [if_pos h3]
    exact Or.inl ⟨17,_,rfl,by decide,by omega,by omega⟩
  rw [if_neg h3]
  by_cases h4 : ¬ 32 ∈ t
  · rw [if_pos h4]
    exact Or.inl ⟨11,_,rfl,by decide,by omega,by omega⟩
  rw [if_neg h4]
  have h4':=Classical.not_not.1 h4
  have hsp2:=zbu h4'
  have hfr2:=zg0 32 t
  have hlen2:=congrArg List.length hsp2
  simp only [List.length_append,List.length_cons] at hlen2
  generalize seg 32 t = value at *
  generalize t.drop (value.length + 1) = u at *
  unfold timeS
  have hl3:=zam 32 u
  by_cases h5 : ¬ (timeR (seg 32 u)).2.1.1 = 0
  · rw [if_pos h5]
    exact Or.inl ⟨20,_,rfl,by decide,by omega,by omega⟩
  rw [if_neg h5]
  by_cases h6 : 32 ∈ u
  · rw [if_pos h6]
    exact Or.inl ⟨11,_,rfl,by decide,by omega,by omega⟩
  rw [if_neg h6]
  rw [za7 h6] at h5 ⊢
  have h3':=Classical.not_not.1 h3
  have hat:=zce h3'
  refine Or.inr ⟨name,value,u,((parseR value).1.1,(parseR value).1.2.1,(parseR value).1.2.2.1),by rw [← hsp2,← hsp],by simpa using h1,hfr,hfr2,h6,?_,Classical.not_not.1 h5,rfl⟩
  generalize parseR value = z at h3' hat
  obtain ⟨⟨a,b,c,_⟩,⟨x,y,_⟩,_⟩:=z
  simp only at h3' hat
  subst h3' hat
  rfl
theorem zpr {m : MetD} (hm : MetOK m) (h : expM m 3 = 0) : grParse (lineG m) = (m,(0,0,()),()):=by
  obtain ⟨nm,d,t,rfl,hnm,hd,t1,t2⟩:=zdr h
  have hdo : DecLOK d:=hm.2.1.2 d (by simp)
  obtain ⟨neg,c,e,rfl,hc,he⟩:=zaz hdo
  have hd' : checkR neg c e = 0:=hd
  have hp:=zee neg c hc e hd'
  have hvl : valL [(neg,(c : Int),e)] = textD neg c e:=rfl
  have e1 : lineG (nm,2,[(neg,(c : Int),e)],1000000,[],t,()) = nm ++ 32 :: (textD neg c e ++ 32 :: Lib.decDigits t.toNat):=by
    unfold lineG
    rw [hvl]; simp
  have hfr:=zno (zaa t.toNat)
  rw [e1,zvh (zpq hnm) (zmb neg c e),if_neg (by simp [hnm]),hp,if_neg (by simp)]
  unfold timeS
  rw [za7 hfr,zvf t1 t2,if_neg (show ¬ ¬ (numR t 0 0).2.1.1 = 0 from fun h => h rfl),if_neg hfr]
  rfl
theorem znp {s : List UInt8} (hs : s.length ≤ 10000) {name value time : List UInt8} {d : DecL} (h0 : s = name ++ 32 :: (value ++ 32 :: time)) (hn : nameOK name = true) (hp : parseR value = ((d.1,d.2.1,d.2.2,()),(0,0,()),())) (ht : (timeR time).2.1.1 = 0) :
    MetOK (name,2,[d],1000000,[],(timeR time).1,()) ∧ expM (name,2,[d],1000000,[],(timeR time).1,()) 3 = 0 ∧ chkM (name,2,[d],1000000,[],(timeR time).1,()) = 0 ∧ (lineG (name,2,[d],1000000,[],(timeR time).1,())).length ≤ s.length:=by
  obtain ⟨neg,c,e,q1,q2,q3,q4⟩:=zg2 (s:=value) (by rw [hp])
  have hd : d = (neg,(c : Int),e):=by
    rw [hp] at q1
    have w1 : d.1 = neg:=congrArg (fun r : ParseR => r.1.1) q1
    have w2 : d.2.1 = (c : Int):=congrArg (fun r : ParseR => r.1.2.1) q1
    have w3 : d.2.2 = e:=congrArg (fun r : ParseR => r.1.2.2.1) q1
    exact Prod.ext w1 (Prod.ext w2 w3)
  subst hd
  obtain ⟨t1,t2⟩:=zhy q1
  obtain ⟨b1,b2,b3,b4,b5,b6,b7⟩:=zcq ht
  have hdd : Lib.decDigits (val time) = time:=zyx b6 b7
  have hlen:=congrArg List.length h0
  simp at hlen
  have hd0 : decC (neg,(c : Int),e) = 0:=q4
  have e2 : valsB [(neg,(c : Int),e)] = true:=by unfold valsB; simp [hd0]
  have e4 : timeB (timeR time).1 = true:=by
    unfold timeB
    rw [b2]
    simp only [Bool.and_eq_true,decide_eq_true_eq]
    omega
  have hck : chkM (name,2,[(neg,(c : Int),e)],1000000,[],(timeR time).1,()) = 0:=by
    unfold chkM
    simp only [hn,e2,e4]
    rfl
  refine ⟨⟨?_,⟨by simp,fun d' hd' => ?_⟩,by simp,fun t ht => by simp at ht⟩,?_,hck,?_⟩
  · show name.length ≤ 10000; omega
  · have : d' = (neg,(c : Int),e):=by simpa using hd'
    subst this
    rw [z7] at q2
    refine ⟨trivial,⟨?_,?_⟩,q3.1,q3.2⟩
    · show (0 : Int) ≤ (c : Int); omega
    · show (c : Int) ≤ 18446744073709551615; omega
  · unfold expM
    rw [if_neg (by omega),if_pos hck]
    have : saysM (name,2,[(neg,(c : Int),e)],1000000,[],(timeR time).1,()) 3 = true:=by
      unfold saysM
      rw [if_neg (by omega),if_pos rfl]
      unfold saysG bareM
      have : ((timeR time).1 == 0) = false:=by rw [b2,beq_eq_false_iff_ne]; omega
      simp only [this]
      rfl
    rw [this]; rfl
  · unfold lineG
    have : valL [(neg,(c : Int),e)] = textD neg c e:=rfl
    simp only [this,b2]
    rw [show ((val time : Nat) : Int).toNat = val time from by omega,hdd]
    simp
    omega
theorem zvi {m : MetD} (hm : MetOK m) (h : expM m 3 = 0) (hl : m.1.length ≤ 300) : (lineG m).length ≤ 400:=by
  obtain ⟨nm,d,t,rfl,hnm,hd,t1,t2⟩:=zdr h
  have hdo : DecLOK d:=hm.2.1.2 d (by simp)
  have h1:=zb5 hdo hd
  have h2:=zor t1 t2
  have h5 : valL [d] = textD d.1 d.2.1.toNat d.2.2:=rfl
  simp only at hl
  unfold lineG
  simp only [h5]
  simp
  omega
end Go.AM
set_option linter.unusedVariables false
set_option linter.unusedSimpArgs false
namespace Go.AM
def insD (t : TagL) : List TagL→List TagL
  | [] => [t]
  | x :: r => if ltT x t then x :: insD t r else if x = t then x :: r else t :: x :: r
def normT (l : List TagL) : List TagL:=l.foldl (fun o t => insD t o) []
abbrev StrictT (l : List TagL) : Prop:=l.Pairwise fun a b => ltT a b = true
theorem zg3 (t : TagL) : ∀ (l : List TagL) (x : TagL),x ∈ insD t l ↔ x = t ∨ x ∈ l
  | [],x => by simp [insD]
  | y :: r,x => by
    unfold insD
    split
    · simp only [List.mem_cons,zg3 t r x]
      constructor
      · rintro (h | h | h) <;> simp [h]
      · rintro (h | h | h) <;> simp [h]
    · split
      · rename_i e
        subst e
        simp only [List.mem_cons]
        constructor
        · rintro (h | h) <;> simp [h]
        · rintro (h | h | h) <;> simp [h]
      · simp only [List.mem_cons]
theorem zgl (t : TagL) : ∀ (l : List TagL),StrictT l→StrictT (insD t l)
  | [],_ => by simp [insD,StrictT]
  | y :: r,h => by
    obtain ⟨h1,h2⟩:=List.pairwise_cons.1 h
    unfold insD
    split
    · rename_i hy
      refine List.pairwise_cons.2 ⟨fun x hx => ?_,zgl t r h2⟩
      rcases (zg3 t r x).1 hx with rfl | hx
      · exact hy
      · exact h1 x hx
    · rename_i hy
      split
      · exact h
      · rename_i hne
        have hty : ltT t y = true:=by
          cases hc : ltT t y
          · exact absurd (zdc (by simpa using hy) hc) hne
          · rfl
        refine List.pairwise_cons.2 ⟨fun x hx => ?_,h⟩
        rcases List.mem_cons.1 hx with rfl | hx
        · exact hty
        · exact zdb hty (h1 x hx)
theorem zcj : ∀ (a b : List TagL),StrictT a→StrictT b→(∀ x,x ∈ a ↔ x ∈ b)→a = b
  | [],[],_,_,_ => rfl
  | [],y :: b,_,_,h => by have:=(h y).2 (by simp); cases this
  | x :: a,[],_,_,h => by have:=(h x).1 (by simp); cases this
  | x :: a,y :: b,ha,hb,h => by
    obtain ⟨h1,h2⟩:=List.pairwise_cons.1 ha
    obtain ⟨h3,h4⟩:=List.pairwise_cons.1 hb
    have e : x = y:=by
      rcases List.mem_cons.1 ((h x).1 (by simp)) with e | e
      · exact e
      · rcases List.mem_cons.1 ((h y).2 (by simp)) with e' | e'
        · exact e'.symm
        · have:=zjl (h1 y e'); rw [h3 x e] at this; cases this
    subst e
    rw [zcj a b h2 h4 (fun z => ?_)]
    have hx:=h z
    simp only [List.mem_cons] at hx
    constructor
    · intro hz
      rcases hx.1 (Or.inr hz) with rfl | h'
      · have:=h1 _ hz; rw [zcn] at this; cases this
      · exact h'
    · intro hz
      rcases hx.2 (Or.inr hz) with rfl | h'
      · have:=h3 _ hz; rw [zcn] at this; cases this
      · exact h'
theorem zeh : ∀ (l o : List TagL),StrictT o→StrictT (l.foldl (fun o t => insD t o) o) ∧ ∀ x,x ∈ l.foldl (fun o t => insD t o) o ↔ x ∈ o ∨ x ∈ l
  | [],o,h => ⟨h,fun x => by simp⟩
  | t :: l,o,h => by
    obtain ⟨h1,h2⟩:=zeh l (insD t o) (zgl t o h)
    refine ⟨h1,fun x => ?_⟩
    rw [List.foldl_cons,h2 x,zg3,List.mem_cons]
    constructor
    · rintro ((h | h) | h) <;> simp [h]
    · rintro (h | h | h) <;> simp [h]
theorem zbg (l : List TagL) : StrictT (normT l):=(zeh l [] List.Pairwise.nil).1
theorem zcf (l : List TagL) (x : TagL) : x ∈ normT l ↔ x ∈ l:=by
  unfold normT; rw [(zeh l [] List.Pairwise.nil).2 x]; simp
theorem zmd {l : List TagL} (h : StrictT l) : normT l = l:=
  zcj _ _ (zbg l) h (fun x => zcf l x)
theorem zme (t : TagL) : ∀ l,(insD t l).length ≤ l.length + 1
  | [] => by simp [insD]
  | y :: r => by
    unfold insD
    have:=zme t r
    split
    · simp; omega
    · split <;> simp
theorem zdi (l : List TagL) : (normT l).length ≤ l.length:=by
  have : ∀ (l o : List TagL),(l.foldl (fun o t => insD t o) o).length ≤ o.length + l.length:=by
    intro l
    induction l with
    | nil => intro o; simp
    | cons t l ih => intro o; have h1:=ih (insD t o); have h2:=zme t o; simp only [List.foldl_cons,List.length_cons]; omega
  have h:=this l []
  simp only [List.length_nil,Nat.zero_add] at h
  exact h
def dedF (D : List TagL) (t : TagL) : List TagL:=if D.getLast? = some t then D else D ++ [t]
theorem zjx : ∀ (s D : List TagL),SortedT s→StrictT D→(∀ a ∈ D,∀ b ∈ s,ltT b a = false)→StrictT (s.foldl dedF D) ∧ ∀ x,x ∈ s.foldl dedF D ↔ x ∈ D ∨ x ∈ s
  | [],D,_,h,_ => ⟨h,fun x => by simp⟩
  | t :: s, D, hs, hD, hb => by
    obtain ⟨h1,h2⟩:=List.pairwise_cons.1 hs
    have key : StrictT (dedF D t) ∧ (∀ x,x ∈ dedF D t ↔ x ∈ D ∨ x = t):=by
      unfold dedF
      split
      · rename_i e
        have ht : t ∈ D:=List.mem_of_getLast? e
        exact ⟨hD,fun x => ⟨Or.inl,fun h => h.elim id (fun e => e ▸ ht)⟩⟩
      · rename_i e
        refine ⟨?_,fun x => by simp⟩
        refine List.pairwise_append.2 ⟨hD,List.pairwise_singleton _ _,fun a ha b hb' => ?_⟩
        rw [List.mem_singleton.1 hb']
        have h0:=hb a ha t (by simp)
        cases hc : ltT a t
        · exfalso
          have : a = t:=zdc hc h0
          subst this
          apply e
          have : ∀ (D : List TagL),StrictT D→(∀ x ∈ D,ltT a x = false)→a ∈ D→D.getLast? = some a:=by
            intro D
            induction D with
            | nil => intro _ _ h; cases h
            | cons y D ih =>
              intro hp hm hin
              obtain ⟨p1,p2⟩:=List.pairwise_cons.1 hp
              cases D with
              | nil => rcases List.mem_cons.1 hin with rfl | h
                       · rfl
                       · cases h
              | cons z D =>
                rw [List.getLast?_cons_cons]
                refine ih p2 (fun x hx => hm x (List.mem_cons_of_mem _ hx)) ?_
                rcases List.mem_cons.1 hin with rfl | h
                · have:=p1 z (by simp); rw [hm z (by simp)] at this; cases this
                · exact h
          exact this D hD (fun x hx => hb x hx a (by simp)) ha
        · rfl
    obtain ⟨k1,k2⟩:=key
    obtain ⟨f1,f2⟩:=zjx s (dedF D t) h2 k1 (fun a ha b hb' => by
      rcases (k2 a).1 ha with ha | rfl
      · exact hb a ha b (List.mem_cons_of_mem _ hb')
      · exact h1 b hb')
    refine ⟨f1,fun x => ?_⟩
    rw [List.foldl_cons,f2 x,k2 x,List.mem_cons]
    constructor
    · rintro ((h | h) | h) <;> simp [h]
    · rintro (h | h | h) <;> simp [h]
theorem zvj (l : List TagL) : (sortTags l).foldl dedF [] = normT l:=by
  obtain ⟨h1,h2⟩:=zjx (sortTags l) [] (zbw l) List.Pairwise.nil (fun a ha => by cases ha)
  refine zcj _ _ h1 (zbg l) (fun x => ?_)
  rw [h2 x,zcf,(za4 l).mem_iff]; simp
theorem zf2 {α : Type} : ∀ (l : List α) (k : Nat) (x : α),upd l k x = l.set k x
  | [],_,_ => rfl
  | _ :: l,0,_ => rfl
  | _ :: l,k + 1,x => by simp [upd,zf2 l k x]
end Go.AM
set_option linter.unusedVariables false
set_option linter.unusedSimpArgs false
namespace Go.AM
theorem zmf {α : Type} {L D : List α} {k : Nat} (h : L.take D.length = D) (hk : D.length = k + 1) : L[k]? = D.getLast?:=by
  rw [List.getLast?_eq_getElem?]
  have : D[D.length - 1]? = (L.take D.length)[D.length - 1]?:=by rw [h]
  rw [this,hk,List.getElem?_take]
  simp
theorem zvk {α : Type} {L D : List α} (x : α) (h : L.take D.length = D) (hk : D.length < L.length) : (L.set D.length x).take (D ++ [x]).length = D ++ [x]:=by
  rw [List.length_append,List.length_singleton,List.take_add_one,List.take_set_of_le (Nat.le_refl _),h]
  simp [hk]
theorem zvl {α : Type} (L : List α) (i k : Nat) (x : α) (h : i ≤ k) : (L.set i x).drop (k + 1) = L.drop (k + 1):=List.drop_set_of_lt (by omega)
theorem zsd (n : Nat) (X : Type) (k0 : (Nat × Nat)→Int→(Nat × List TagL)→(Nat × List TagL)→(Nat × List TagL)→Option X) (v N : Nat) (hN : N ≤ 100000) (b0 b1 : Nat × List TagL) :
    ∀ (r D L : List TagL) (i m : Nat),L.drop i = r→i ≤ N→r.length < m→D.length ≤ i→(i = 0 ↔ D = [])→L.length = N→L.take D.length = D →
    ∃ L',L'.take (r.foldl dedF D).length = r.foldl dedF D ∧ L'.length = N ∧ F.zr.L5 n k0 m (v,N) (D.length : Int) (v,N) (N : Int) (i : Int) b0 b1 (v,L) = k0 (v,N) ((r.foldl dedF D).length : Int) b0 b1 (v,L'):=by
  intro r
  induction r with
  | nil =>
    intro D L i m hr hi hm hD h0 hL hT
    obtain ⟨m,rfl⟩ : ∃ p,m = p + 1:=⟨m - 1,by omega⟩
    refine ⟨L,hT,hL,?_⟩
    rw [F.zr.L5]
    unfold F.zr.L5.step
    dsimp only
    rw [zg (by have:=zm hr; omega)]
    rfl
  | cons x r ih =>
    intro D L i m hr hi hm hD h0 hL hT
    obtain ⟨m,rfl⟩ : ∃ p,m = p + 1:=⟨m - 1,by simp at hm; omega⟩
    obtain ⟨l1,g1,t1⟩:=zk hr
    have hw : IntKind.wrap .i64 ((D.length : Int) + 1) = ((D.length + 1 : Nat) : Int):=zh (by omega)
    have hput : ∃ L',L'.take (r.foldl dedF (D ++ [x])).length = r.foldl dedF (D ++ [x]) ∧ L'.length = N ∧ F.zr.L5 n k0 m (v,N) (((D ++ [x]).length : Nat) : Int) (v,N) (N : Int) ((i + 1 : Nat) : Int) b0 b1 (v,L.set D.length x) = k0 (v,N) ((r.foldl dedF (D ++ [x])).length : Int) b0 b1 (v,L'):=
      ih (D ++ [x]) (L.set D.length x) (i + 1) m (by rw [zvl L D.length i x hD]; exact t1) (by omega) (by simp at hm; omega) (by simp; omega) (by simp) (by simpa using hL) (zvk x hT (by omega))
    rw [F.zr.L5]
    unfold F.zr.L5.step
    dsimp only
    rw [List.foldl_cons]
    have hb1 : (decide ((0 : Int) ≤ (i : Int)) && decide ((i : Int) < (N : Int))) = true:=by simp; omega
    have hb2 : (decide ((0 : Int) ≤ (D.length : Int)) && decide ((D.length : Int) < (N : Int))) = true:=by simp; omega
    have hbe : Nat.beq v v = true:=Nat.beq_refl v
    rw [zd (by omega : (i : Int) < (N : Int)),hb1,hbe,cond_true,cond_true,zr,g1,za,zh (by omega : i < 4611686018427387904)]
    by_cases hi0 : i = 0
    · have hD0:=h0.1 hi0
      have e0 : ((i : Int) == 0) = true:=by simp [hi0]
      rw [e0,cond_true,hb2,cond_true,cond_true,zcc (by omega : D.length < L.length),za,hw,Int.toNat_natCast,zf2]
      have hd : dedF D x = D ++ [x]:=by rw [hD0]; rfl
      rw [hd]
      obtain ⟨L',q1,q2,q3⟩:=hput
      refine ⟨L',q1,q2,?_⟩
      rw [← q3,List.length_append,List.length_singleton]
    · have e0 : ((i : Int) == 0) = false:=by simpa using hi0
      have hne : D ≠ []:=fun h => hi0 (h0.2 h)
      have hpos : 0 < D.length:=List.length_pos_iff.2 hne
      have hwp : IntKind.wrap .i64 ((D.length : Int) - 1) = ((D.length - 1 : Nat) : Int):=by rw [zi (by omega)]; omega
      have hb3 : (decide ((0 : Int) ≤ ((D.length - 1 : Nat) : Int)) && decide (((D.length - 1 : Nat) : Int) < (N : Int))) = true:=by simp; omega
      obtain ⟨y,hy⟩ : ∃ y,D.getLast? = some y:=⟨_,List.getLast?_eq_some_getLast hne⟩
      have gl : L[D.length - 1]? = some y:=by rw [zmf hT (by omega),hy]
      rw [e0,cond_false,hwp,hb3,cond_true,cond_true,zr,gl,za,zl9]
      by_cases hxy : x = y
      · rw [decide_eq_true hxy,Bool.not_true,cond_false]
        have hd : dedF D x = D:=by unfold dedF; rw [hy,hxy,if_pos rfl]
        rw [hd]
        exact ih D L (i + 1) m t1 (by omega) (by simp at hm; omega) (by omega) (by simp [hne]) hL hT
      · rw [decide_eq_false hxy,Bool.not_false,cond_true,hb2,cond_true,cond_true,zcc (by omega : D.length < L.length),za,hw,Int.toNat_natCast,zf2]
        have hd : dedF D x = D ++ [x]:=by unfold dedF; rw [hy,if_neg (by simpa using fun h : y = x => hxy h.symm)]
        rw [hd]
        obtain ⟨L',q1,q2,q3⟩:=hput
        refine ⟨L',q1,q2,?_⟩
        rw [← q3,List.length_append,List.length_singleton]
theorem zx9 (n : Nat) (l : List TagL) : F.zp n l = some l:=by
  unfold F.zp
  rw [beq_self_eq_true,cond_true,show (0 : Int) = ((0 : Nat) : Int) from rfl,zz l 0 l.length (by omega) (by omega)]
  simp
theorem zg4 (n : Nat) (hn : 200000 ≤ n) (l : List TagL) (hl : l.length ≤ 100000) (v : Nat) (b0 b1 : Nat × List TagL) :
    F.zr.L5 n (fun (e11_3 : Nat × Nat) (e11_4 : Int) (e11_b0_0 e11_b1_0 e11_b2_0 : Nat × List TagL) =>
          bif Nat.beq e11_3.1 e11_b2_0.1 then
            (sub e11_b2_0.2 (0 : Int) e11_4).bind fun x12 =>
              (F.zp n x12).bind fun y13 =>
                some (y13)
          else
            none) n (v,l.length) (0 : Int) (v,l.length) (l.length : Int) (0 : Int) b0 b1 (v,sortTags l) = some (normT l):=by
  obtain ⟨L', q1,q2,q3⟩:=zsd n _ (fun (e11_3 : Nat × Nat) (e11_4 : Int) (e11_b0_0 e11_b1_0 e11_b2_0 : Nat × List TagL) =>
          bif Nat.beq e11_3.1 e11_b2_0.1 then
            (sub e11_b2_0.2 (0 : Int) e11_4).bind fun x12 =>
              (F.zp n x12).bind fun y13 =>
                some (y13)
          else
            none) v l.length hl b0 b1 (sortTags l) [] (sortTags l) 0 n rfl (by omega) (by rw [za9]; omega) (by simp) (by simp) (za9 l) rfl
  refine q3.trans ?_
  rw [zvj] at q1 ⊢
  dsimp only
  rw [Nat.beq_refl,cond_true,show (0 : Int) = ((0 : Nat) : Int) from rfl,zz L' 0 _ (by omega) (by rw [q2]; exact zdi l),q1]
  simp only [za,List.drop_zero,zx9]
theorem zfl (n : Nat) (hn : 200000 ≤ n) (l : List TagL) (hl : l.length ≤ 100000) : F.zr n l = some (normT l):=by
  have e1 : (decide ((0 + l.length) * 32 ≤ 2 ^ 46) && decide (0 < 32 ∧ 32 ≤ 2 ^ 20)) = true:=by
    rw [decide_eq_true (by omega)]; rfl
  have e2 : ∀ l : List TagL,l.length ≤ 100000→(Nat.beq (sortTags l).length l.length && Nat.blt l.length strMax) = true:=by
    intro l hl
    rw [za9,Nat.beq_refl,Bool.true_and,zn]
    exact Nat.ble_eq ▸ (by omega : l.length + 1 ≤ 4611686018427387904)
  unfold F.zr
  rw [List.nil_append,e1,cond_true,e2 l hl,cond_true]
  cases l with
  | nil =>
    have h1:=zg4 n hn [] (by simp) 1 (1,[]) (1,[])
    have h2:=zg4 n hn [] (by simp) 2 (1,[]) (1,[])
    refine Eq.trans (b:=both (some (normT [])) (some (normT []))) ?_ (ziu _)
    rw [List.isEmpty_nil,cond_true]
    congr 1
  | cons t l =>
    exact zg4 n hn (t :: l) hl 2 (1,[]) (1,[])
end Go.AM
set_option linter.unusedVariables false
set_option linter.unusedSimpArgs false
namespace Go.AM
theorem zps {d : List UInt8} (hD : Digs d) (neg : Bool) (E : Int) : ((valR neg d E).2.1 = 10 ∧ (valR neg d E).1 = (false,0,0,())) ∨
    (∃ (neg' : Bool) (c : Nat) (e : Int),valR neg d E = ((neg',(c : Int),e,()),0,()) ∧ c < two64 ∧ (-9223372036854775808 ≤ e ∧ e ≤ 9223372036854775807) ∧ checkR neg' c e = 0):=by
  by_cases hv : val d = 0
  · refine Or.inr ⟨false,0,0,?_,by decide,by omega,?_⟩
    · have : valR neg d E = zeroD:=by unfold valR; rw [if_pos hv]
      rw [this]; rfl
    · have d0 : Lib.decDigits 0 = [48]:=zbn (by omega)
      unfold checkR
      rw [d0]; rfl
  · obtain ⟨c0,z,h1,h2⟩:=zbd (val d) (by omega)
    rw [zac hD h2 h1]
    generalize E + (z : Int) = Y
    by_cases hY : Y < -18
    · refine Or.inl ?_
      have : normR neg c0 Y = ((false,0,0,()),10,()):=by unfold normR; rw [if_pos hY]
      rw [this]
      exact ⟨rfl,rfl⟩
    · by_cases hf : c0 * 10 ^ (Y - 18).toNat < two64
      · have e1 : normR neg c0 Y = ((neg,((c0 * 10 ^ (Y - 18).toNat : Nat) : Int),(if Y ≤ 18 then Y else 18),()),0,()):=by unfold normR; rw [if_neg hY,if_pos hf]
        rw [e1]
        have hE : -18 ≤ (if Y ≤ 18 then Y else 18) ∧ (if Y ≤ 18 then Y else 18) ≤ 18:=by split <;> omega
        refine Or.inr ⟨neg,c0 * 10 ^ (Y - 18).toNat,(if Y ≤ 18 then Y else 18),rfl,hf,by omega,?_⟩
        unfold checkR
        rw [if_neg (by omega),zac (zaa _) h2 (zat _)]
        have e2 : (if Y ≤ 18 then Y else 18) + (((Y - 18).toNat : Nat) : Int) = Y:=by split <;> omega
        rw [e2,e1,if_pos ⟨rfl,rfl⟩]
      · refine Or.inl ?_
        have : normR neg c0 Y = ((false,0,0,()),10,()):=by unfold normR; rw [if_neg hY,if_neg hf]
        rw [this]
        exact ⟨rfl,rfl⟩
def decV (d : DecL) : DecR:=valR d.1 (Lib.decDigits d.2.1.toNat) d.2.2
def valOK (d : DecL) : Bool:=(decV d).2.1 == 0
def refV (d : DecL) : DecL:=((decV d).1.1,(decV d).1.2.1,(decV d).1.2.2.1)
def normV (d : DecL) : DecL:=if valOK d then refV d else d
theorem zya (n : Nat) (hn : 100 ≤ n) {d : DecL} (h : DecLOK d) : F.zf n (d.1,d.2.1,d.2.2,()) = some (decV d):=by
  obtain ⟨neg,c,e,rfl,hc,he⟩:=zaz h
  exact zdg n hn neg c hc e he
theorem zjy {d : DecL} (h : valOK d = true) : normV d = refV d ∧ decC (normV d) = 0 ∧ DecLOK (normV d):=by
  have e : normV d = refV d:=by unfold normV; rw [if_pos h]
  refine ⟨e,?_⟩
  rw [e]
  unfold refV
  unfold valOK at h
  rcases zps (zaa d.2.1.toNat) d.1 d.2.2 with ⟨h1,_⟩ | ⟨neg,c,e,h1,h2,h3,h4⟩
  · exfalso
    have h1 : (decV d).2.1 = 10:=h1
    rw [h1] at h; cases h
  · have h1 : decV d = ((neg,(c : Int),e,()),0,()):=h1
    rw [h1]
    refine ⟨h4,trivial,⟨by simp,?_⟩,h3⟩
    have:=z7; simp only; omega
theorem zjz {d : DecL} (hd : DecLOK d) (h : valOK d = false) : normV d = d ∧ decC d ≠ 0:=by
  refine ⟨by unfold normV; rw [if_neg (by rw [h]; simp)],fun h0 => ?_⟩
  obtain ⟨neg,c,e,rfl,hc,he⟩:=zaz hd
  have hh : decV (neg,(c : Int),e) = ((neg,(c : Int),e,()),0,()):=(zbx h0).1
  unfold valOK at h
  rw [hh] at h
  cases h
theorem zvm {d : DecL} (hd : DecLOK d) (h0 : decC d = 0) : valOK d = true ∧ normV d = d:=by
  obtain ⟨neg,c,e,rfl,hc,he⟩:=zaz hd
  have hv:=(zbx h0).1
  have h1 : decV (neg,(c : Int),e) = ((neg,(c : Int),e,()),0,()):=hv
  have h2 : valOK (neg,(c : Int),e) = true:=by unfold valOK; rw [h1]; rfl
  refine ⟨h2,?_⟩
  unfold normV refV
  rw [if_pos h2,h1]
theorem zvn {d : DecL} (hd : DecLOK d) : DecLOK (normV d):=by
  cases h : valOK d
  · rw [(zjz hd h).1]; exact hd
  · exact (zjy h).2.2
def zeroM : MetD:=([],(0 : Int),[],(0 : Int),[],(0 : Int),())
def valsM (m : MetD) : MetD:=(m.1,m.2.1,m.2.2.1.map normV,m.2.2.2.1,m.2.2.2.2.1,m.2.2.2.2.2.1,())
def formM (m : MetD) : MetD:=(m.1,m.2.1,m.2.2.1.map normV,m.2.2.2.1,normT m.2.2.2.2.1,m.2.2.2.2.2.1,())
def normM (m : MetD) : MetD × Int × Unit:=if chkM (valsM m) = 0 then (formM m,0,()) else (zeroM,chkM (valsM m),())
theorem zmg {m : MetD} (hm : MetOK m) : MetOK (valsM m):=by
  refine ⟨hm.1,⟨by rw [valsM]; simpa using hm.2.1.1,fun d hd => ?_⟩,hm.2.2⟩
  obtain ⟨x,hx,rfl⟩:=List.mem_map.1 hd
  exact zvn (hm.2.1.2 x hx)
theorem zy1 {α : Type} (p r : List α) (x y : α) : upd (p ++ x :: r) p.length y = p ++ y :: r:=by
  rw [zf2,List.set_append_right _ _ (Nat.le_refl _),Nat.sub_self]; rfl
theorem zse (n : Nat) (hn : 200000 ≤ n) (X : Type) (k0 : (Nat × Nat)→List UInt8→Int→List DecL→Int→List TagL→Int→List UInt8→Int→List DecL→Int→List TagL→Int→(Nat × List DecL)→(Nat × List DecL)→Nat→Nat→Option X)
    (b00 : List UInt8) (b01 : Int) (b02 : List DecL) (b03 : Int) (b04 : List TagL) (b05 : Int) (b10 : List UInt8) (b11 : Int) (b12 : List DecL) (b13 : Int) (b14 : List TagL) (b15 : Int) (b2 : Nat × List DecL) (k1 k2 : Nat) (v N : Nat) (hN : N ≤ 10000) :
    ∀ (r p : List DecL) (i m : Nat),i + r.length = N→p.length = i→r.length < m→(∀ d ∈ r,DecLOK d) →
    F.zh.L3 n k0 m (v,N) (v,N) (N : Int) (i : Int) b00 b01 b02 b03 b04 b05 b10 b11 b12 b13 b14 b15 b2 (v,p ++ r) k1 k2 = k0 (v,N) b00 b01 b02 b03 b04 b05 b10 b11 b12 b13 b14 b15 b2 (v,p ++ r.map normV) k1 k2:=by
  intro r
  induction r with
  | nil =>
    intro p i m h1 h2 hm hok
    obtain ⟨m,rfl⟩ : ∃ q,m = q + 1:=⟨m - 1,by omega⟩
    rw [F.zh.L3]
    unfold F.zh.L3.step
    dsimp only
    rw [zg (by simp at h1; omega)]
    rfl
  | cons x r ih =>
    intro p i m h1 h2 hm hok
    obtain ⟨m,rfl⟩ : ∃ q,m = q + 1:=⟨m - 1,by simp at hm; omega⟩
    simp only [List.length_cons] at h1 hm
    have hx:=hok x (by simp)
    have hp : (p ++ x :: r)[i]? = some x:=by rw [← h2]; simp
    have hb1 : (decide ((0 : Int) ≤ (i : Int)) && decide ((i : Int) < (N : Int))) = true:=by simp; omega
    rw [F.zh.L3]
    unfold F.zh.L3.step
    dsimp only
    rw [zd (by omega : (i : Int) < (N : Int)),hb1,Nat.beq_refl,cond_true,cond_true,zr,hp,za,zya n (by omega) hx,za,zh (by omega)]
    have step : ∀ y,y = normV x→F.zh.L3 n k0 m (v,N) (v,N) (N : Int) ((i + 1 : Nat) : Int) b00 b01 b02 b03 b04 b05 b10 b11 b12 b13 b14 b15 b2 (v,p ++ y :: r) k1 k2 = k0 (v,N) b00 b01 b02 b03 b04 b05 b10 b11 b12 b13 b14 b15 b2 (v,p ++ (x :: r).map normV) k1 k2:=by
      intro y hy
      have:=ih (p ++ [y]) (i + 1) m (by omega) (by simp; omega) (by omega) (fun d hd => hok d (List.mem_cons_of_mem _ hd))
      rw [List.append_assoc,List.append_assoc,List.singleton_append,List.singleton_append] at this
      rw [this,hy,List.map_cons]
    cases hv : valOK x
    · have hv' : ((decV x).2.1 == 0) = false:=hv
      rw [hv',cond_false]
      exact step x (zjz hx hv).1.symm
    · have hv' : ((decV x).2.1 == 0) = true:=hv
      rw [hv',cond_true,cond_true,cond_true,za,Int.toNat_natCast,← h2,zy1,h2]
      exact step _ (zjy hv).1.symm
theorem zmh (n : Nat) (hn : 200000 ≤ n) (m : MetD) (hm : MetOK m) (v : Nat) (b10 : List UInt8) (b11 : Int) (b12 : List DecL) (b13 : Int) (b14 : List TagL) (b15 : Int) (b2 : Nat × List DecL) (k1 k2 : Nat) :
    F.zh.L3 n
          (fun e4_4 e4_b0_0 e4_b0_1 e4_b0_2 e4_b0_3 e4_b0_4 e4_b0_5 e4_b1_0 e4_b1_1 e4_b1_2 e4_b1_3 e4_b1_4 e4_b1_5 e4_b2_0 e4_b3_0 e4_k0 e4_k1 =>
            bif Nat.beq e4_4.1 e4_b3_0.1 then
              (F.zo n (e4_b0_0,e4_b0_1,e4_b3_0.2,e4_b0_3,e4_b0_4,e4_b0_5,())).bind fun y5 =>
                bif !(y5 == (0 : Int)) then
                  some ((([],(0 : Int),[],(0 : Int),[],(0 : Int),()),y5,()))
                else
                  (F.zr n e4_b0_4).bind fun y6 =>
                    some (((e4_b0_0,e4_b0_1,e4_b3_0.2,e4_b0_3,y6,e4_b0_5,()),(0 : Int),()))
            else
              none) n (v,m.2.2.1.length) (v,m.2.2.1.length) (m.2.2.1.length : Int) (0 : Int) m.1 m.2.1 m.2.2.1 m.2.2.2.1 m.2.2.2.2.1 m.2.2.2.2.2.1 b10 b11 b12 b13 b14 b15 b2 (v,m.2.2.1) k1 k2 = some (normM m):=by
  refine (zse n hn _ _ m.1 m.2.1 m.2.2.1 m.2.2.2.1 m.2.2.2.2.1 m.2.2.2.2.2.1 b10 b11 b12 b13 b14 b15 b2 k1 k2 v m.2.2.1.length (by have:=hm.2.1.1; omega) m.2.2.1 [] 0 n (by omega) rfl (by have:=hm.2.1.1; omega) hm.2.1.2).trans ?_
  dsimp only
  rw [Nat.beq_refl,cond_true]
  have hc : F.zo n (m.1,m.2.1,[] ++ m.2.2.1.map normV,m.2.2.2.1,m.2.2.2.2.1,m.2.2.2.2.2.1,()) = some (chkM (valsM m)):=zb8 n hn (valsM m) (zmg hm)
  rw [hc,za]
  unfold normM
  by_cases h : chkM (valsM m) = 0
  · rw [if_pos h,h,zfl n hn _ (by have:=hm.2.2.1; omega)]
    rfl
  · rw [if_neg h,beq_eq_false_iff_ne.2 h]
    rfl
theorem zc2 (n : Nat) (hn : 200000 ≤ n) (m : MetD) (hm : MetOK m) : F.zh n m = some (normM m):=by
  have hl:=hm.2.1.1
  have e1 : (decide ((0 + m.2.2.1.length) * 24 ≤ 2 ^ 46) && decide (0 < 24 ∧ 24 ≤ 2 ^ 20)) = true:=by
    rw [decide_eq_true (by omega)]; rfl
  unfold F.zh
  rw [e1,cond_true]
  have h2:=zmh n hn m hm 2 [] 0 [] 0 [] 0 (1,[]) 0 0
  cases hv : m.2.2.1 with
  | nil =>
    have h1:=zmh n hn m hm 1 [] 0 [] 0 [] 0 (1,[]) 0 0
    rw [hv] at h1 h2
    refine Eq.trans (b:=both (some (normM m)) (some (normM m))) ?_ (ziu _)
    rw [List.isEmpty_nil,cond_true]
    exact congr (congrArg both h1) h2
  | cons d vs =>
    rw [hv] at h2
    exact h2
end Go.AM
set_option linter.unusedVariables false
set_option linter.unusedSimpArgs false
namespace Go.AM
def TagS (t : TagL) : Prop:=t.1.length ≤ 1000 ∧ t.2.length ≤ 1000
theorem za1 {c : Int} {s : List UInt8} {lo hi : Int} (h : (textF c s lo hi).1 = 0) : lo ≤ (s.length : Int) ∧ (s.length : Int) ≤ hi ∧ s.all (cls c) = true:=by
  unfold textF at h
  split at h
  · cases h
  · split at h
    · cases h
    · split at h
      · cases h
      · split at h
        · cases h
        · rename_i h1 h2 h3 h4
          exact ⟨by omega,by omega,Classical.byContradiction fun hh => h4 ((zdx _ _ _).2 hh)⟩
theorem zh0 {t : TagL} (h : tagGood t = true) : TagS t:=by
  unfold tagGood at h
  simp only [Bool.and_eq_true,beq_iff_eq] at h
  have h1:=za1 h.1
  have h2:=za1 h.2
  exact ⟨by omega,by omega⟩
theorem growS {X : Type} {a b : Nat} (h : a + b ≤ 1000000) (y : Option X) : (bif decide (a + b ≤ strMax) then y else none) = y:=by
  rw [decide_eq_true (by rw [zn]; omega)]; rfl
theorem growB {X : Type} {a b : Nat} (h : a + b ≤ 1000000) (y : Option X) : (bif decide ((a + b) * 1 ≤ 2 ^ 46) && decide (0 < 1 ∧ 1 ≤ 2 ^ 20) then y else none) = y:=by
  rw [decide_eq_true (by omega)]; rfl
theorem growL {X : Type} {a : Nat} (h : a ≤ 1000000) (y : Option X) : (bif decide ((a + 1) * 16 ≤ 2 ^ 46) && decide (0 < 16 ∧ 16 ≤ 2 ^ 20) then y else none) = y:=by
  rw [decide_eq_true (by omega)]; rfl
def wordT (k : Int) : List UInt8:=if k = 1 then [99] else if k = 2 then [103] else if k = 3 then [109,115] else if k = 4 then [104] else if k = 5 then [100] else []
theorem zdj {k : Int} (h : kindB k = true) : k = 1 ∨ k = 2 ∨ k = 3 ∨ k = 4 ∨ k = 5:=by
  unfold kindB at h
  simp only [Bool.and_eq_true,decide_eq_true_eq] at h
  omega
theorem zyb (n : Nat) (k : Int) : F.zbl n k = some (if kindB k then (wordT k,0,()) else ([],16,())):=by
  unfold F.zbl
  by_cases h1 : k < 1
  · have : kindB k = false:=by unfold kindB; rw [decide_eq_false (by omega)]; rfl
    rw [zd h1,this]; rfl
  · rw [zg h1]
    by_cases h2 : k > 5
    · have : kindB k = false:=by unfold kindB; rw [decide_eq_false (by omega : ¬ k ≤ 5),Bool.and_false]
      rw [zd h2,this]; rfl
    · have hk : k = 1 ∨ k = 2 ∨ k = 3 ∨ k = 4 ∨ k = 5:=by omega
      rw [zg h2]
      rcases hk with rfl | rfl | rfl | rfl | rfl <;> rfl
theorem zh1 (k : Int) : (wordT k).length ≤ 2:=by
  unfold wordT; repeat' split
  all_goals decide
def textL (d : DecL) : List UInt8:=textD d.1 d.2.1.toNat d.2.2
def valsT (vs : List DecL) : List UInt8:=(vs.map fun d => 58 :: textL d).flatten
def oneT (t : TagL) : List UInt8:=if t.2 = [] then t.1 else t.1 ++ ([58] ++ t.2)
def tagText (ts : List TagL) : List UInt8:=Lib.join (ts.map oneT) [44]
def rateP (r : Int) : List UInt8:=if r = 1000000 then [] else [124,64] ++ (rateText r).1
def tagsP (ts : List TagL) : List UInt8:=if ts = [] then [] else [124,35] ++ tagText ts
def timeP (t : Int) : List UInt8:=if t = 0 then [] else [124,84] ++ Lib.decDigits t.toNat
def lineD (m : MetD) : List UInt8:=m.1 ++ valsT m.2.2.1 ++ ([124] ++ wordT m.2.1) ++ rateP m.2.2.2.1 ++ tagsP m.2.2.2.2.1 ++ timeP m.2.2.2.2.2.1
theorem zmi {vs : List DecL} (h : ∀ d ∈ vs,DecLOK d ∧ decC d = 0) : (valsT vs).length ≤ 40 * vs.length:=by
  induction vs with
  | nil => simp [valsT]
  | cons d vs ih =>
    have:=zb5 (h d (by simp)).1 (h d (by simp)).2
    have h2:=ih (fun x hx => h x (List.mem_cons_of_mem _ hx))
    have e : (valsT (d :: vs)).length = (textL d).length + 1 + (valsT vs).length:=by simp [valsT]; omega
    have e2 : (textL d).length ≤ 39:=this
    simp only [List.length_cons]
    omega
theorem zyc {t : TagL} (h : TagS t) : (oneT t).length ≤ 2001:=by
  unfold oneT
  have:=h.1; have:=h.2
  split <;> simp <;> omega
theorem zos (sep : List UInt8) (b : Nat) : ∀ l : List (List UInt8),(∀ x ∈ l,x.length ≤ b)→(Lib.join l sep).length ≤ l.length * (b + sep.length):=by
  intro l h
  cases l with
  | nil => simp [Lib.join]
  | cons x l =>
    rw [Lib.join_cons]
    have : ∀ l : List (List UInt8),(∀ x ∈ l,x.length ≤ b)→(Lib.joinTail sep l).length ≤ l.length * (b + sep.length):=by
      intro l
      induction l with
      | nil => intro _; simp [Lib.joinTail]
      | cons y l ih =>
        intro h
        have h1:=ih (fun x hx => h x (List.mem_cons_of_mem _ hx))
        have h2:=h y (by simp)
        have : Lib.joinTail sep (y :: l) = sep ++ y ++ Lib.joinTail sep l:=by simp [Lib.joinTail]
        rw [this,List.length_append,List.length_append,List.length_cons,Nat.add_mul]
        omega
    have h1:=this l (fun x hx => h x (List.mem_cons_of_mem _ hx))
    have h2:=h x (by simp)
    rw [List.length_append,List.length_cons,Nat.add_mul]
    omega
theorem zh2 {ts : List TagL} (h : ∀ t ∈ ts,TagS t) (hl : ts.length ≤ 32) : (tagText ts).length ≤ 70000:=by
  unfold tagText
  have:=zos [44] 2001 (ts.map oneT) (fun x hx => by
    obtain ⟨t,ht,rfl⟩:=List.mem_map.1 hx
    exact zyc (h t ht))
  rw [List.length_map] at this
  have h2 : ts.length * (2001 + [(44 : UInt8)].length) ≤ 32 * 2002:=Nat.mul_le_mul_right _ hl
  omega
theorem zmj (n : Nat) (hn : 200000 ≤ n) (X : Type) (k0 : List (List UInt8)→Nat→Option X) (kr : List UInt8→Int→Int→Option X) (ts : List TagL) (hl : ts.length ≤ 1000) (hok : ∀ t ∈ ts,TagS t ∧ tagGood t = true) : ∀ (r : List TagL) (acc : List (List UInt8)) (i m : Nat),ts.drop i = r→acc.length ≤ i→i ≤ ts.length→r.length < m →
    F.zam.L3 n k0 kr m acc ts (ts.length : Int) (i : Int) acc.length = k0 (acc ++ r.map oneT) (acc ++ r.map oneT).length:=by
  intro r
  induction r with
  | nil =>
    intro acc i m h1 h2 hi hm
    obtain ⟨m,rfl⟩ : ∃ q,m = q + 1:=⟨m - 1,by omega⟩
    rw [F.zam.L3]
    unfold F.zam.L3.step
    dsimp only
    rw [zg (by have:=zm h1; omega)]
    simp
  | cons t r ih =>
    intro acc i m h1 h2 hi hm
    obtain ⟨m,rfl⟩ : ∃ q,m = q + 1:=⟨m - 1,by simp at hm; omega⟩
    obtain ⟨l1,g1,t1⟩:=zk h1
    simp only [List.length_cons] at hm
    obtain ⟨ht,hg⟩:=hok t (List.mem_of_getElem? g1)
    have a1:=ht.1
    have a2:=ht.2
    have hih:=ih (acc ++ [oneT t]) (i + 1) m t1 (by simp; omega) (by omega) (by omega)
    have e : acc ++ [oneT t] ++ r.map oneT = acc ++ (t :: r).map oneT:=by simp
    rw [e] at hih
    rw [F.zam.L3]
    unfold F.zam.L3.step
    dsimp only
    rw [zd (by omega),zr,g1,za,ziq n hn ⟨by omega,by omega⟩,za,hg,cond_true]
    rw [zh (by omega),Nat.beq_refl,growL (by omega),growL (by omega)]
    simp only [beq_self_eq_true,Bool.not_true,cond_false,cond_true]
    by_cases h0 : t.2 = []
    · rw [h0,beq_self_eq_true,Bool.not_true,cond_false]
      have e1 : oneT t = t.1:=by unfold oneT; rw [if_pos h0]
      rw [e1] at hih
      exact hih
    · rw [beq_eq_false_iff_ne.2 h0,Bool.not_false,cond_true,growS (by omega),growS (by simp only [List.length_append,List.length_cons,List.length_nil]; omega)]
      have e1 : oneT t = t.1 ++ ([58] ++ t.2):=by unfold oneT; rw [if_neg h0]
      rw [e1] at hih
      exact hih
theorem zpt (n : Nat) (hn : 200000 ≤ n) (ts : List TagL) (hl : ts.length ≤ 32) (hok : ∀ t ∈ ts,TagS t ∧ tagGood t = true) : F.zam n ts = some (tagText ts,0,0,()):=by
  unfold F.zam
  refine (zmj n hn _ _ _ ts (by omega) hok ts [] 0 n rfl (by simp) (by omega) (by omega)).trans ?_
  have e1 : O.join n (ts.map oneT) [44] = some (tagText ts):=by
    unfold O.join
    have h2:=zh2 (fun t ht => (hok t ht).1) hl
    unfold tagText at h2
    have : (Nat.ble (ts.map oneT).length big47 && Nat.ble (Lib.join (ts.map oneT) [44]).length big47) = true:=by
      simp only [Bool.and_eq_true,nble,big47,List.length_map]
      omega
    rw [this,cond_true]; rfl
  show (O.join n (ts.map oneT) [44]).bind _ = _
  rw [e1]; rfl
end Go.AM
set_option linter.unusedVariables false
set_option linter.unusedSimpArgs false
namespace Go.AM
theorem zei {k r : Int} (h : rateB k r = true) : (rateP r).length ≤ 20 ∧ (rateText r).2.1 = 0 ∧ 1 ≤ r ∧ r ≤ 1000000:=by
  have hr : 1 ≤ r ∧ r ≤ 1000000:=by
    unfold rateB at h
    simp only [Bool.and_eq_true,decide_eq_true_eq] at h
    exact ⟨h.1,h.2.1⟩
  by_cases e : r = 1000000
  · subst e; exact ⟨by decide,by decide,by omega,by omega⟩
  · have hf:=zai (k:=r) ⟨hr.1,by omega⟩
    have h6:=(za0 (k:=r.toNat) (by omega)).2.1
    have ht:=zcd (pad6 r.toNat)
    unfold rateP
    rw [if_neg e,hf]
    refine ⟨?_,rfl,hr⟩
    simp only [List.length_append,List.length_cons,List.length_nil]
    omega
theorem zg5 {t : Int} (h : timeB t = true) : (timeP t).length ≤ 24 ∧ 0 ≤ t ∧ t ≤ 1099511627776:=by
  have hr : 0 ≤ t ∧ t ≤ 1099511627776:=by
    unfold timeB at h
    simpa only [Bool.and_eq_true,decide_eq_true_eq] using h
  refine ⟨?_,hr⟩
  have:=zc1 (c:=t.toNat) (by rw [z7]; omega)
  unfold timeP
  split
  · simp
  · simp only [List.length_append,List.length_cons,List.length_nil]; omega
structure RightM (m : MetD) : Prop where
  ok : MetOK m
  chk : chkM m = 0
theorem zcr {m : MetD} (h : RightM m) : (∀ d ∈ m.2.2.1,DecLOK d ∧ decC d = 0) ∧ 1 ≤ m.2.2.1.length ∧ m.2.2.1.length ≤ 64:=by
  have:=(zbp h.chk).2.2.1
  unfold valsB at this
  simp only [Bool.and_eq_true,decide_eq_true_eq] at this
  refine ⟨fun d hd => ⟨h.ok.2.1.2 d hd,?_⟩,this.1,this.2.1⟩
  simpa using List.all_eq_true.1 this.2.2 d hd
theorem zh3 {m : MetD} (h : RightM m) : (∀ t ∈ m.2.2.2.2.1,TagS t ∧ tagGood t = true) ∧ m.2.2.2.2.1.length ≤ 32:=by
  have:=(zbp h.chk).2.2.2.2.1
  unfold tagsB at this
  simp only [Bool.and_eq_true,decide_eq_true_eq] at this
  exact ⟨fun t ht => ⟨zh0 (List.all_eq_true.1 this.2 t ht),List.all_eq_true.1 this.2 t ht⟩,this.1⟩
theorem zcg {s : List UInt8} (h : nameOK s = true) : 1 ≤ s.length ∧ s.length ≤ 200:=by
  rw [zdh] at h
  simp only [Bool.and_eq_true,decide_eq_true_eq] at h
  exact h.2
theorem zsf (n : Nat) (hn : 200000 ≤ n) (X : Type) (k0 : List UInt8→Int→List DecL→Int→List TagL→Int→(Nat × List UInt8)→(Nat × Nat)→Int→Option X) (b0 : List UInt8) (b1 : Int) (b2 : List DecL) (b3 : Int) (b4 : List TagL) (b5 : Int) (vs : List DecL) (hl : vs.length ≤ 100) (hok : ∀ d ∈ vs,DecLOK d ∧ decC d = 0) : ∀ (r : List DecL) (acc : List UInt8) (v i m : Nat),vs.drop i = r→acc.length ≤ 1000 + i * 40→i ≤ vs.length→r.length < m →
    ∃ v',F.zg.L9 n k0 m vs (vs.length : Int) (i : Int) b0 b1 b2 b3 b4 b5 (v,acc) (v,acc.length) 0 = k0 b0 b1 b2 b3 b4 b5 (v',acc ++ valsT r) (v',(acc ++ valsT r).length) 0:=by
  intro r
  induction r with
  | nil =>
    intro acc v i m h1 h2 hi hm
    obtain ⟨m,rfl⟩ : ∃ q,m = q + 1:=⟨m - 1,by omega⟩
    refine ⟨v,?_⟩
    rw [F.zg.L9]
    unfold F.zg.L9.step
    dsimp only
    rw [zg (by have:=zm h1; omega)]
    simp [valsT]
  | cons d r ih =>
    intro acc v i m h1 h2 hi hm
    obtain ⟨m,rfl⟩ : ∃ q,m = q + 1:=⟨m - 1,by simp at hm; omega⟩
    obtain ⟨l1,g1,t1⟩:=zk h1
    simp only [List.length_cons] at hm
    obtain ⟨hd,h0⟩:=hok d (List.mem_of_getElem? g1)
    have hlen : (textL d).length ≤ 39:=zb5 hd h0
    have hT : F.zbb n (d.1,d.2.1,d.2.2,()) = some (textL d,0,()):=zef n hn hd h0
    obtain ⟨v',hv⟩:=ih (acc ++ ([58] ++ textL d)) (v + 1) (i + 1) m t1 (by simp only [List.length_append,List.length_cons,List.length_nil]; omega) (by omega) (by omega)
    refine ⟨v',?_⟩
    rw [F.zg.L9]
    unfold F.zg.L9.step
    dsimp only
    rw [zd (by omega),zr,g1,za,hT,za,zh (by omega)]
    dsimp only
    rw [beq_self_eq_true,cond_true,growS (by omega),Nat.beq_refl,cond_true,growB (by simp only [List.length_append,List.length_cons,List.length_nil]; omega)]
    rw [hv]
    simp [valsT]
theorem zsg (n : Nat) (X : Type) (kr : List UInt8→Int→Option X) (b0 : List UInt8) (b1 : Int) (b2 : List DecL) (b3 : Int) (b4 : List TagL) (b5 : Int) (B : List UInt8) (v l : Nat) (hB : B ≠ []) : F.zg.C25 n kr b0 b1 b2 b3 b4 b5 (v,B) (v,l) 0 = kr B 0:=by
  unfold F.zg.C25
  dsimp only
  rw [beq_self_eq_true,Bool.not_true,cond_false,Nat.beq_refl,cond_true]
  cases B with
  | nil => exact absurd rfl hB
  | cons x B => rfl
theorem zsh (n : Nat) (X : Type) (kr : List UInt8→Int→Option X) (b0 : List UInt8) (b1 : Int) (b2 : List DecL) (b3 : Int) (b4 : List TagL) (b5 : Int) (h5 : timeB b5 = true) (B : List UInt8) (v : Nat) (hB : B ≠ []) (hl : B.length ≤ 200000) : F.zg.C22 n kr b0 b1 b2 b3 b4 b5 (v,B) (v,B.length) 0 = kr (B ++ timeP b5) 0:=by
  obtain ⟨t1,t2,t3⟩:=zg5 h5
  unfold F.zg.C22 timeP
  by_cases e : b5 = 0
  · rw [e,beq_self_eq_true,Bool.not_true,cond_false,if_pos rfl,List.append_nil]
    exact zsg n X _ b0 b1 b2 b3 b4 0 B v _ hB
  · have hd : F.zbh n b5 = some (Lib.decDigits b5.toNat,0,()):=by
      rw [zl7 n b5 (by omega)]; unfold numText; rw [if_neg (by omega)]
    have hdl:=zc1 (c:=b5.toNat) (by rw [z7]; omega)
    rw [beq_eq_false_iff_ne.2 e,Bool.not_false,cond_true,hd,za,if_neg e]
    dsimp only
    rw [beq_self_eq_true,cond_true,growS (by omega),Nat.beq_refl,cond_true,growB (by simp only [List.length_append,List.length_cons,List.length_nil]; omega)]
    exact zsg n X _ b0 b1 b2 b3 b4 b5 _ _ _ (by simp)
theorem zsi (n : Nat) (hn : 200000 ≤ n) (X : Type) (kr : List UInt8→Int→Option X) (b0 : List UInt8) (b1 : Int) (b2 : List DecL) (b3 : Int) (b4 : List TagL) (b5 : Int) (h5 : timeB b5 = true) (hts : b4.length ≤ 32) (ht : ∀ t ∈ b4,TagS t ∧ tagGood t = true) (B : List UInt8) (v : Nat) (hB : B ≠ []) (hl : B.length ≤ 100000) : F.zg.C19 n kr b0 b1 b2 b3 b4 b5 (v,B) (v,B.length) 0 = kr (B ++ tagsP b4 ++ timeP b5) 0:=by
  have htl:=zh2 (fun t ht' => (ht t ht').1) hts
  unfold F.zg.C19 tagsP
  by_cases e : b4 = []
  · rw [e,zg (by simp),if_pos rfl,List.append_nil]
    exact zsh n X _ b0 b1 b2 b3 [] b5 h5 B v hB (by omega)
  · have hlen : 0 < b4.length:=List.length_pos_iff.2 e
    rw [zd (by omega),zpt n hn b4 hts ht,za,if_neg e]
    dsimp only
    rw [beq_self_eq_true,cond_true,growS (by omega),Nat.beq_refl,cond_true,growB (by simp only [List.length_append,List.length_cons,List.length_nil]; omega)]
    exact zsh n X _ b0 b1 b2 b3 b4 b5 h5 _ _ (by simp) (by simp only [List.length_append,List.length_cons,List.length_nil]; omega)
theorem zyd (n : Nat) (hn : 200000 ≤ n) (X : Type) (kr : List UInt8→Int→Option X) (b0 : List UInt8) (b1 : Int) (b2 : List DecL) (b3 : Int) (b4 : List TagL) (b5 : Int) (k : Int) (h3 : rateB k b3 = true) (h5 : timeB b5 = true) (hts : b4.length ≤ 32) (ht : ∀ t ∈ b4,TagS t ∧ tagGood t = true) (B : List UInt8) (v : Nat) (hB : B ≠ []) (hl : B.length ≤ 50000) : F.zg.C16 n kr b0 b1 b2 b3 b4 b5 (v,B) (v,B.length) 0 = kr (B ++ rateP b3 ++ tagsP b4 ++ timeP b5) 0:=by
  obtain ⟨r1,r2,r3,r4⟩:=zei h3
  unfold F.zg.C16
  by_cases e : b3 = 1000000
  · have : rateP b3 = []:=by unfold rateP; rw [if_pos e]
    rw [this,List.append_nil,e,beq_self_eq_true,Bool.not_true,cond_false]
    exact zsi n hn X _ b0 b1 b2 1000000 b4 b5 h5 hts ht B v hB (by omega)
  · have hP : rateP b3 = [124,64] ++ (rateText b3).1:=by unfold rateP; rw [if_neg e]
    have hrl : (rateText b3).1.length ≤ 20:=by rw [hP] at r1; simp only [List.length_append,List.length_cons,List.length_nil] at r1; omega
    rw [hP,beq_eq_false_iff_ne.2 e,Bool.not_false,cond_true,zfj,za,beq_self_eq_true,cond_true,growS (by omega)]
    dsimp only
    rw [Nat.beq_refl,cond_true,growB (by simp only [List.length_append,List.length_cons,List.length_nil]; omega),r2]
    exact zsi n hn X _ b0 b1 b2 b3 b4 b5 h5 hts ht _ _ (by simp) (by simp only [List.length_append,List.length_cons,List.length_nil]; omega)
def lineM (m : MetD) : List UInt8 × Int × Unit:=if (normM m).2.1 = 0 then (lineD (normM m).1,0,()) else ([],(normM m).2.1,())
theorem zds {m : MetD} (hm : MetOK m) : (normM m = (formM m,0,()) ∧ RightM (formM m)) ∨ (∃ e,e ≠ 0 ∧ normM m = (zeroM,e,())):=by
  unfold normM
  by_cases h : chkM (valsM m) = 0
  · refine Or.inl ⟨if_pos h,?_,?_⟩
    · have hv:=zmg hm
      refine ⟨hm.1,hv.2.1,?_,?_⟩
      · have h1:=zdi m.2.2.2.2.1
        have h2:=hm.2.2.1
        show (normT m.2.2.2.2.1).length ≤ 10000
        omega
      · intro t ht
        exact hm.2.2.2 t ((zcf _ _).1 ht)
    · obtain ⟨c1,c2,c3,c4,c5,c6⟩:=zbp h
      have c5' : tagsB (formM m).2.2.2.2.1 = true:=by
        unfold tagsB at c5 ⊢
        simp only [Bool.and_eq_true,decide_eq_true_eq] at c5 ⊢
        have h1:=zdi m.2.2.2.2.1
        have h2 : m.2.2.2.2.1.length ≤ 32:=c5.1
        refine ⟨?_,List.all_eq_true.2 (fun t ht => List.all_eq_true.1 c5.2 t ((zcf _ _).1 ht))⟩
        show (normT m.2.2.2.2.1).length ≤ 32
        omega
      unfold chkM
      have d1 : nameOK (formM m).1 = true:=c1
      have d2 : kindB (formM m).2.1 = true:=c2
      have d3 : valsB (formM m).2.2.1 = true:=c3
      have d4 : rateB (formM m).2.1 (formM m).2.2.2.1 = true:=c4
      have d6 : timeB (formM m).2.2.2.2.2.1 = true:=c6
      rw [d1,d2,d3,d4,c5',d6]
      rfl
  · exact Or.inr ⟨_,h,if_neg h⟩
theorem zye (n : Nat) (hn : 200000 ≤ n) (m : MetD) (hm : MetOK m) : F.zg n m = some (lineM m):=by
  unfold F.zg lineM
  have hN : F.zh n (m.1,m.2.1,m.2.2.1,m.2.2.2.1,m.2.2.2.2.1,m.2.2.2.2.2.1,()) = some (normM m):=zc2 n hn m hm
  rw [hN,za]
  rcases zds hm with ⟨h1,hR⟩ | ⟨e,he,h1⟩
  · rw [h1]
    generalize formM m = f at hR
    obtain ⟨hv,hv1,hv2⟩:=zcr hR
    obtain ⟨ht,ht2⟩:=zh3 hR
    obtain ⟨c1,c2,c3,c4,c5,c6⟩:=zbp hR.chk
    have hnm:=zcg c1
    have hvl:=zmi hv
    obtain ⟨nm,k,vs,r,ts,t,_⟩:=f
    dsimp only at hv hv1 hv2 ht ht2 c1 c2 c3 c4 c5 c6 hnm hvl ⊢
    rw [beq_self_eq_true,Bool.not_true,cond_false,if_pos rfl,growS (by omega),growB (by simp only [List.length_append,List.length_nil]; omega)]
    obtain ⟨v', hloop⟩ := zsf n hn _ (fun e4_b0_0 e4_b0_1 e4_b0_2 e4_b0_3 e4_b0_4 e4_b0_5 e4_b1_0 e4_b2_1 e4_b3_0 =>
            (F.zbl n e4_b0_1).bind fun y5 =>
              bif e4_b3_0 == (0 : Int) then
                bif decide (1 + y5.1.length ≤ strMax) then
                  bif Nat.beq e4_b2_1.1 e4_b1_0.1 then
                    bif decide ((e4_b1_0.2.length + ((([124]) ++ y5.1).length)) * 1 ≤ 2 ^ 46) && decide (0 < 1 ∧ 1 ≤ 2 ^ 20) then
                      F.zg.C16 n
                        (fun e30_2 e30_3 =>
                          some ((e30_2,e30_3,()))) e4_b0_0 e4_b0_1 e4_b0_2 e4_b0_3 e4_b0_4 e4_b0_5 (e4_b2_1.1 + 1,e4_b1_0.2 ++ (([124]) ++ y5.1)) (e4_b2_1.1 + 1,(e4_b1_0.2 ++ (([124]) ++ y5.1)).length) y5.2.1
                    else
                      none
                  else
                    none
                else
                  none
              else
              bif decide (1 + y5.1.length ≤ strMax) then
                bif Nat.beq e4_b2_1.1 e4_b1_0.1 then
                  bif decide ((e4_b1_0.2.length + ((([124]) ++ y5.1).length)) * 1 ≤ 2 ^ 46) && decide (0 < 1 ∧ 1 ≤ 2 ^ 20) then
                    F.zg.C16 n
                      (fun e31_2 e31_3 =>
                        some ((e31_2,e31_3,()))) e4_b0_0 e4_b0_1 e4_b0_2 e4_b0_3 e4_b0_4 e4_b0_5 (e4_b2_1.1 + 1,e4_b1_0.2 ++ (([124]) ++ y5.1)) (e4_b2_1.1 + 1,(e4_b1_0.2 ++ (([124]) ++ y5.1)).length) e4_b3_0
                  else
                    none
                else
                  none
              else
                none) nm k vs r ts t vs (by omega) hv vs nm 2 0 n rfl (by omega) (by omega) (by omega)
    refine hloop.trans ?_
    dsimp only
    have hws:=zh1 k
    rw [zyb,c2,if_pos rfl,za]
    dsimp only
    rw [beq_self_eq_true,cond_true,growS (by omega),Nat.beq_refl,cond_true,growB (by simp only [List.length_append,List.length_cons,List.length_nil]; omega)]
    exact zyd n hn _ _ nm k vs r ts t k c4 c6 ht2 ht _ _ (by simp) (by simp only [List.length_append,List.length_cons,List.length_nil]; omega)
  · rw [h1]
    dsimp only
    rw [if_neg he,beq_eq_false_iff_ne.2 he,Bool.not_false,cond_true]
end Go.AM
set_option linter.unusedVariables false
set_option linter.unusedSimpArgs false
namespace Go.AM
abbrev Res (α : Type):=Except (Int × Int) α
def kindR (s : List UInt8) : Int:=if s = [99] then 1 else if s = [103] then 2 else if s = [109,115] then 3 else if s = [104] then 4 else if s = [100] then 5 else 0
theorem zyf (n : Nat) (hn : 100 ≤ n) (s : List UInt8) : F.za0 n s = some (if kindR s = 0 then (0,16,()) else (kindR s,0,())):=by
  obtain ⟨m,hm⟩ : ∃ q,n = q + 7:=⟨n - 7,by omega⟩
  unfold F.za0
  rw [show F.zbn n = some ([],[99],[103],[109,115],[104],[100],()) from rfl,za]
  have L : ∀ (k0 : Unit→Option (Int × Int × Unit)) (kr : Int→Int→Option (Int × Int × Unit)),F.za0.L2 n k0 kr (m + 7) s ([],[99],[103],[109,115],[104],[100],()) (0 : Int) = if s = [99] then kr 1 0 else if s = [103] then kr 2 0 else if s = [109,115] then kr 3 0 else if s = [104] then kr 4 0 else if s = [100] then kr 5 0 else k0 ():=by
    intro k0 kr
    have e1 : ([99] == s) = decide (s = [99]):=by by_cases h : s = [99] <;> simp [h]; exact fun h' => h h'.symm
    have e2 : ([103] == s) = decide (s = [103]):=by by_cases h : s = [103] <;> simp [h]; exact fun h' => h h'.symm
    have e3 : ([109,115] == s) = decide (s = [109,115]):=by by_cases h : s = [109,115] <;> simp [h]; exact fun h' => h h'.symm
    have e4 : ([104] == s) = decide (s = [104]):=by by_cases h : s = [104] <;> simp [h]; exact fun h' => h h'.symm
    have e5 : ([100] == s) = decide (s = [100]):=by by_cases h : s = [100] <;> simp [h]; exact fun h' => h h'.symm
    show (bif [99] == s then kr 1 0 else bif [103] == s then kr 2 0 else bif [109,115] == s then kr 3 0 else bif [104] == s then kr 4 0 else bif [100] == s then kr 5 0 else k0 ()) = _
    rw [e1,e2,e3,e4,e5]
    simp only [bdec]
  rw [hm] at L ⊢
  refine (L _ _).trans ?_
  unfold kindR
  repeat' split
  all_goals first | rfl | (simp_all)
def readVals : List (List UInt8)→List DecL→Int→Except Int (List DecL)
  | [],acc,_ => .ok acc
  | v :: r,acc,at_ => if (parseR v).2.1.1 = 0 ∧ acc.length ≠ 64 then readVals r (acc ++ [((parseR v).1.1,(parseR v).1.2.1,(parseR v).1.2.2.1)]) (at_ + v.length + 1) else .error at_
def restN (c : UInt8) (s : List UInt8) : List UInt8:=if c ∈ s then s.drop ((seg c s).length + 1) else []
def firstR (s : List UInt8) : Res (List UInt8 × List DecL):=
  if nameOK (seg 58 s) = false then .error (15,0)
  else if 58 ∉ s then .error (11,(s.length : Int))
  else match readVals (splitL 58 (restN 58 s)) [] ((seg 58 s).length + 1) with
    | .ok vs => .ok (seg 58 s,vs)
    | .error at_ => .error (17,at_)
def tagsR : List (List UInt8)→List TagL→Int→Except Int (List TagL)
  | [],acc,_ => .ok acc
  | p :: r,acc,at_ => if tagGood (seg 58 p,restN 58 p) = true ∧ ¬ (58 ∈ p ∧ restN 58 p = []) then tagsR r (acc ++ [(seg 58 p,restN 58 p)]) (at_ + p.length + 1) else .error at_
def moreR (m : MetD) (last : Int) : List UInt8→Except Int (MetD × Int)
  | [] => .error 11
  | x :: s =>
    if x = 64 then (if 0 < last then .error 11 else if (rateR s).2.1.1 ≠ 0 ∨ (m.2.1 = 2 ∧ (rateR s).1 ≠ 1000000) then .error 18 else .ok ((m.1,m.2.1,m.2.2.1,(rateR s).1,m.2.2.2.2.1,m.2.2.2.2.2.1,()),1))
    else if x = 35 then (if 1 < last then .error 11 else match tagsR (splitL 44 s) [] 0 with
      | .error _ => .error 19
      | .ok l => if 32 < l.length then .error 19 else .ok ((m.1,m.2.1,m.2.2.1,m.2.2.2.1,normT l,m.2.2.2.2.2.1,()),2))
    else if x = 84 then (if 2 < last then .error 11 else if (parseNum s 1 1099511627776).2.1.1 ≠ 0 then .error 20 else .ok ((m.1,m.2.1,m.2.2.1,m.2.2.2.1,m.2.2.2.2.1,(parseNum s 1 1099511627776).1,()),3))
    else .error 11
def restR : List (List UInt8)→Int→MetD→Int→Res MetD
  | [],_,m,_ => .ok m
  | p :: r,at_,m,last => match moreR m last p with
    | .error e => .error (e,at_)
    | .ok (m',last') => restR r (at_ + p.length + 1) m' last'
def secondR (s p : List UInt8) (nm : List UInt8) (vs : List DecL) : List (List UInt8)→Res MetD
  | [] => .error (11,(s.length : Int))
  | q :: r => if kindR q = 0 then .error (16,(p.length : Int) + 1) else restR r ((p.length : Int) + 1 + (q.length + 1)) (nm,kindR q,vs,1000000,[],0,()) 0
def linesR (s : List UInt8) : List (List UInt8)→Res MetD
  | [] => .error (11,0)
  | p :: r => match firstR p with
    | .error e => .error e
    | .ok x => secondR s p x.1 x.2 r
abbrev ParseD:=MetD × (Int × Int × Unit) × Unit
def outP : Res MetD→ParseD
  | .ok m => (m,(0,0,()),())
  | .error e => (zeroM,(e.1,e.2,()),())
def parseD (s : List UInt8) : ParseD:=if 8192 < s.length then (zeroM,(12,0,()),()) else outP (linesR s (splitL 124 s))
theorem zmk (c : UInt8) (s : List UInt8) : (restN c s).length ≤ s.length:=by
  unfold restN; split <;> simp
theorem zej (c : UInt8) (s : List UInt8) : splitL c s = if c ∈ s then seg c s :: splitL c (restN c s) else [s]:=by
  induction s with
  | nil => rfl
  | cons x s ih =>
    by_cases hx : x = c
    · subst hx
      have e1 : seg x (x :: s) = []:=by rw [zaq,if_pos rfl]
      have e2 : restN x (x :: s) = s:=by unfold restN; rw [if_pos (by simp),e1]; rfl
      rw [if_pos (by simp),e1,e2,splitL,if_pos rfl]
    · have hmem : (c ∈ x :: s) ↔ c ∈ s:=by simp [show ¬ c = x from fun h => hx h.symm]
      rw [splitL,if_neg hx,ih]
      by_cases hc : c ∈ s
      · rw [if_pos hc,if_pos (hmem.2 hc)]
        have e1 : seg c (x :: s) = x :: seg c s:=by rw [zaq,if_neg hx]
        have e2 : restN c (x :: s) = restN c s:=by unfold restN; rw [if_pos hc,if_pos (hmem.2 hc),e1]; rfl
        rw [e1,e2]
      · rw [if_neg hc,if_neg (fun h => hc (hmem.1 h))]
def sumL (l : List (List UInt8)) : Nat:=(l.map fun p => p.length + 1).sum
theorem za2 (c : UInt8) (s : List UInt8) : sumL (splitL c s) = s.length + 1:=by
  induction s with
  | nil => rfl
  | cons x s ih =>
    rw [splitL]
    split
    · simp only [sumL,List.map_cons,List.sum_cons,List.length_nil,List.length_cons] at ih ⊢
      omega
    · have hne:=zbs c s
      revert ih hne
      cases splitL c s with
      | nil => intro _ h; exact absurd rfl h
      | cons p l =>
        intro ih _
        simp only [sumL,List.map_cons,List.sum_cons,List.length_cons] at ih ⊢
        omega
theorem zbq (l : List (List UInt8)) : l.length ≤ sumL l:=by
  induction l with
  | nil => simp [sumL]
  | cons p l ih => simp only [sumL,List.map_cons,List.sum_cons,List.length_cons] at ih ⊢; omega
theorem zc3 {l : List (List UInt8)} {p : List UInt8} (h : p ∈ l) : p.length + 1 ≤ sumL l:=by
  induction l with
  | nil => cases h
  | cons q l ih =>
    simp only [sumL,List.map_cons,List.sum_cons] at ih ⊢
    rcases List.mem_cons.1 h with rfl | h
    · omega
    · have:=ih h; omega
theorem zg6 (n : Nat) (c : UInt8) {s : List UInt8} (hs : s.length ≤ 1000000) : O.split1 n s [c] = some (splitL c s):=by
  unfold O.split1
  dsimp only
  rw [decide_eq_true (by omega)]; rfl
theorem zpu (s : List UInt8) : ((parseR s).2.1.1 == 0 && (parseR s).2.1.2.1 == 0) = decide ((parseR s).2.1.1 = 0):=by
  by_cases h : (parseR s).2.1.1 = 0
  · rw [decide_eq_true h,h,zce h]; rfl
  · rw [decide_eq_false h,beq_eq_false_iff_ne.2 h]; rfl
theorem zpv (n : Nat) (hn : 200000 ≤ n) (X : Type) (k0 kr : List TagL→Int→Int→Nat→Option X) (ps : List (List UInt8)) (hs : sumL ps ≤ 10000) (b0 b1 : Int) : ∀ (r : List (List UInt8)) (acc : List TagL) (a : Int) (i m : Nat),ps.drop i = r→acc.length ≤ i→i ≤ ps.length→r.length < m→0 ≤ a→a + sumL r ≤ 10000 →
    F.zag.L4 n k0 kr m acc a ps (ps.length : Int) (i : Int) b0 b1 acc.length = match tagsR r acc a with
      | .ok l => k0 l b0 b1 l.length
      | .error e => kr [] 19 e 0:=by
  intro r
  have hpl:=zbq ps
  induction r with
  | nil =>
    intro acc a i m h1 h2 hi hm ha has
    obtain ⟨m,rfl⟩ : ∃ q,m = q + 1:=⟨m - 1,by omega⟩
    rw [F.zag.L4]
    unfold F.zag.L4.step
    dsimp only
    rw [zg (by have:=zm h1; omega)]
    rfl
  | cons p r ih =>
    intro acc a i m h1 h2 hi hm ha has
    obtain ⟨m,rfl⟩ : ∃ q,m = q + 1:=⟨m - 1,by simp at hm; omega⟩
    obtain ⟨l1,g1,t1⟩:=zk h1
    simp only [List.length_cons] at hm
    simp only [sumL,List.map_cons,List.sum_cons] at has
    have hp:=zc3 (List.mem_of_getElem? g1)
    have hsl:=zam 58 p
    have hrl:=zmk 58 p
    have hih:=ih (acc ++ [(seg 58 p,restN 58 p)]) (a + p.length + 1) (i + 1) m t1 (by simp; omega) (by omega) (by omega) (by omega) (by simp only [sumL]; omega)
    have hcut : F.zaa n p [58] = some (seg 58 p,restN 58 p,decide (58 ∈ p),()):=zby n 58 (by omega)
    have hw : IntKind.wrap .i64 (a + IntKind.wrap .i64 ((p.length : Int) + 1)) = a + p.length + 1:=by
      rw [zh (by omega),zi (by omega)]; omega
    have hg : (decide ((acc.length + 1) * 32 ≤ 2 ^ 46) && decide (0 < 32 ∧ 32 ≤ 2 ^ 20)) = true:=by rw [decide_eq_true (by omega)]; rfl
    rw [F.zag.L4]
    unfold F.zag.L4.step
    dsimp only
    rw [zd (by omega),zr,g1,za,hcut,za]
    dsimp only
    have hc:=ziq n hn (t:=(seg 58 p,restN 58 p)) ⟨by show (seg 58 p).length ≤ 10000; omega,by show (restN 58 p).length ≤ 10000; omega⟩
    dsimp only at hc
    rw [hc,za,hw,zh (by omega),hg,Nat.beq_refl,cond_true,cond_true,tagsR]
    cases tagGood (seg 58 p,restN 58 p)
    · rw [if_neg (by simp)]; rfl
    · rw [cond_true,beq_self_eq_true,Bool.not_true,cond_false,bdec]
      by_cases hin : (58 : UInt8) ∈ p
      · rw [if_pos hin]
        by_cases h0 : restN 58 p = []
        · rw [h0,beq_self_eq_true,cond_true,if_neg (by simp [hin])]
        · rw [beq_eq_false_iff_ne.2 h0,cond_false,if_pos ⟨rfl,by simp [h0]⟩]
          exact hih
      · rw [if_neg hin,if_pos ⟨rfl,by simp [hin]⟩]
        exact hih
theorem znq (n : Nat) (hn : 200000 ≤ n) (s : List UInt8) (hs : s.length ≤ 9000) : F.zag n s = some (match tagsR (splitL 44 s) [] 0 with | .ok l => (l,(0,0,()),()) | .error e => ([],(19,e,()),())):=by
  unfold F.zag
  have h1:=za2 44 s
  have h2:=zbq (splitL 44 s)
  rw [zg6 n 44 (by omega),za]
  refine (zpv n hn _ _ _ (splitL 44 s) (by omega) 0 0 (splitL 44 s) [] 0 0 n rfl (by simp) (by omega) (by omega) (by omega) (by omega)).trans ?_
  cases tagsR (splitL 44 s) [] 0 <;> rfl
end Go.AM
set_option linter.unusedVariables false
set_option linter.unusedSimpArgs false
namespace Go.AM
end Go.AM
set_option linter.unusedVariables false
set_option linter.unusedSimpArgs false
namespace Go.AM
abbrev KR:=List UInt8→Int→List DecL→Int→List TagL→Int→Int→Int→List UInt8→Int→List DecL→Int→List TagL→Int→Int→Int→Int→Int→Int→Int→Nat→Nat→Nat→Option ParseD
abbrev K8:=List UInt8→List (List UInt8)→List UInt8→Int→List DecL→Int→List TagL→Int→Int→Int→List UInt8→Int→List DecL→Int→List TagL→Int→Int→Int→Int→Int→Nat→Nat→Nat→Option ParseD
def badP (e a : Int) : ParseD:=(zeroM,(e,a,()),())
theorem zpw (n : Nat) (hn : 200000 ≤ n) (k1 kr : KR) (ps : List (List UInt8)) (hs : sumL ps ≤ 9000)
    (c0 : List UInt8) (c1 : Int) (c2 : List DecL) (c3 : Int) (c4 : List TagL) (c5 d0 d1 : Int) (e0 : List UInt8) (e1 : Int) (e3 : Int) (e4 : List TagL) (e5 e7 f0 f1 : Int) (q0 q1 : Nat)
    (hbad : ∀ acc a l,kr c0 c1 c2 c3 c4 c5 d0 d1 e0 e1 acc e3 e4 e5 0 e7 f0 f1 17 a q0 q1 l = some (badP 17 a)) :
    ∀ (r : List (List UInt8)) (acc : List DecL) (a : Int) (i m : Nat),ps.drop i = r→acc.length ≤ i→i ≤ ps.length→r.length < m→0 ≤ a→a + sumL r ≤ 10000 →
    F.zb.L9_dog_reader_first n k1 kr m a ps (ps.length : Int) (i : Int) c0 c1 c2 c3 c4 c5 d0 d1 e0 e1 acc e3 e4 e5 0 e7 f0 f1 0 0 q0 q1 acc.length = match readVals r acc a with
      | .ok vs => k1 c0 c1 c2 c3 c4 c5 d0 d1 e0 e1 vs e3 e4 e5 0 e7 f0 f1 0 0 q0 q1 vs.length
      | .error b => some (badP 17 b):=by
  intro r
  have hpl:=zbq ps
  induction r with
  | nil =>
    intro acc a i m h1 h2 hi hm ha has
    obtain ⟨m,rfl⟩ : ∃ q,m = q + 1:=⟨m - 1,by omega⟩
    rw [F.zb.L9_dog_reader_first]
    unfold F.zb.L9_dog_reader_first.step
    dsimp only
    rw [zg (by have:=zm h1; omega)]
    rfl
  | cons p r ih =>
    intro acc a i m h1 h2 hi hm ha has
    obtain ⟨m,rfl⟩ : ∃ q,m = q + 1:=⟨m - 1,by simp at hm; omega⟩
    obtain ⟨l1,g1,t1⟩:=zk h1
    simp only [List.length_cons] at hm
    simp only [sumL,List.map_cons,List.sum_cons] at has
    have hp:=zc3 (List.mem_of_getElem? g1)
    have hih:=ih (acc ++ [((parseR p).1.1,(parseR p).1.2.1,(parseR p).1.2.2.1)]) (a + p.length + 1) (i + 1) m t1 (by simp; omega) (by omega) (by omega) (by omega) (by simp only [sumL]; omega)
    have hw : IntKind.wrap .i64 (a + IntKind.wrap .i64 ((p.length : Int) + 1)) = a + p.length + 1:=by
      rw [zh (by omega),zi (by omega)]; omega
    have hw0 : IntKind.wrap .i64 (0 + a) = a:=by rw [Int.zero_add,zi (by omega)]
    have hg : (decide ((acc.length + 1) * 24 ≤ 2 ^ 46) && decide (0 < 24 ∧ 24 ≤ 2 ^ 20)) = true:=by rw [decide_eq_true (by omega)]; rfl
    have h64 : ((acc.length : Int) == 64) = decide (acc.length = 64):=by
      by_cases h : acc.length = 64
      · rw [h]; rfl
      · rw [decide_eq_false h,beq_eq_false_iff_ne]; omega
    rw [F.zb.L9_dog_reader_first]
    unfold F.zb.L9_dog_reader_first.step
    dsimp only
    rw [zd (by omega),zr,g1,za,zdq n hn p (by omega),za,zpu,hw,hw0,zh (by omega),hg,Nat.beq_refl,cond_true,cond_true,h64,readVals]
    by_cases h0 : (parseR p).2.1.1 = 0
    · rw [decide_eq_true h0,Bool.not_true,cond_false]
      by_cases h6 : acc.length = 64
      · rw [decide_eq_true h6,cond_true,if_neg (by simp [h6])]
        exact hbad _ _ _
      · rw [decide_eq_false h6,cond_false,if_pos ⟨h0,h6⟩]
        exact hih
    · rw [decide_eq_false h0,Bool.not_false,cond_true,if_neg (by simp [h0])]
      exact hbad _ _ _
theorem zfm (n : Nat) (c x : UInt8) (s : List UInt8) : F.z7 n (x :: s) [c] = some (if x = c then (s,true,()) else (x :: s,false,())):=by
  unfold F.z7 F.zao F.z8
  have h1 : sub (x :: s) 0 (([c] : List UInt8).length : Int) = some [x]:=by
    rw [show (0 : Int) = ((0 : Nat) : Int) from rfl,show (([c] : List UInt8).length : Int) = ((1 : Nat) : Int) from rfl,zz (x :: s) 0 1 (by omega) (by simp)]; rfl
  have h2 : sub (x :: s) (([c] : List UInt8).length : Int) ((x :: s).length : Int) = some s:=by
    rw [show (([c] : List UInt8).length : Int) = ((1 : Nat) : Int) from rfl,zz (x :: s) 1 _ (by simp) (by omega),List.take_length]; rfl
  rw [zd (by simp; omega),h1,h2]
  by_cases h : x = c
  · subst h
    simp
  · rw [if_neg h]
    have : ([x] == [c]) = false:=by simpa using h
    simp [this]
theorem zek (n : Nat) (c : UInt8) : F.z7 n [] [c] = some ([],false,()):=rfl
theorem zvo (s : List UInt8) : ((rateR s).2.1.1 == 0 && (rateR s).2.1.2.1 == 0) = decide ((rateR s).2.1.1 = 0):=by
  by_cases h : (rateR s).2.1.1 = 0
  · rw [decide_eq_true h,h,(zf1 h).1]; rfl
  · rw [decide_eq_false h,beq_eq_false_iff_ne.2 h]; rfl
theorem zvp (s : List UInt8) : ((parseNum s 1 1099511627776).2.1.1 == 0 && (parseNum s 1 1099511627776).2.1.2.1 == 0) = decide ((parseNum s 1 1099511627776).2.1.1 = 0):=by
  by_cases h : (parseNum s 1 1099511627776).2.1.1 = 0
  · rw [decide_eq_true h,h,(zcq h).1]; rfl
  · rw [decide_eq_false h,beq_eq_false_iff_ne.2 h]; rfl
theorem zj0 : ∀ (r : List (List UInt8)) (acc : List TagL) (a : Int) (l : List TagL),tagsR r acc a = .ok l→l.length = acc.length + r.length
  | [],acc,a,l,h => by cases h; simp
  | p :: r,acc,a,l,h => by
    rw [tagsR] at h
    split at h
    · have:=zj0 r _ _ _ h
      simp at this ⊢; omega
    · cases h
theorem zyg (n : Nat) (hn : 200000 ≤ n) (k0 kr : KR) (p : List UInt8) (hs : p.length ≤ 9000)
    (c0 : List UInt8) (c1 : Int) (c2 : List DecL) (c3 : Int) (c4 : List TagL) (c5 d0 d1 : Int) (e0 : List UInt8) (e1 : Int) (e2 : List DecL) (e3 : Int) (e4 : List TagL) (e5 a last f0 f1 : Int) (q0 q1 q2 : Nat) (ha : 0 ≤ a ∧ a ≤ 100000)
    (hk0 : k0 c0 c1 c2 c3 c4 c5 d0 d1 e0 e1 e2 e3 e4 e5 a last f0 f1 0 0 q0 q1 q2 = some (badP 11 a))
    (hbad : ∀ l e,e ≠ 0→kr c0 c1 c2 c3 c4 c5 d0 d1 e0 e1 e2 e3 e4 e5 a l f0 f1 e a q0 q1 q2 = some (badP e a)) (m : Nat) (hm : 5 ≤ m) :
    F.zb.L2_dog_reader_more n k0 kr m p ([64],(),[35],(),[84],(),()) (0 : Int) c0 c1 c2 c3 c4 c5 d0 d1 e0 e1 e2 e3 e4 e5 a last f0 f1 0 0 q0 q1 q2 = match moreR (e0,e1,e2,e3,e4,e5,()) last p with
      | .error e => some (badP e a)
      | .ok (w,l) => kr c0 c1 c2 c3 c4 c5 d0 d1 w.1 w.2.1 w.2.2.1 w.2.2.2.1 w.2.2.2.2.1 w.2.2.2.2.2.1 a l f0 f1 0 0 q0 q1 q2:=by
  obtain ⟨m,rfl⟩ : ∃ q,m = q + 4:=⟨m - 4,by omega⟩
  have hw0 : IntKind.wrap .i64 (a + 0) = a:=by rw [Int.add_zero,zi (by omega)]
  have w1 : IntKind.wrap .i64 ((0 : Int) + 1) = 1:=rfl
  have w2 : IntKind.wrap .i64 ((1 : Int) + 1) = 2:=rfl
  have w3 : IntKind.wrap .i64 ((2 : Int) + 1) = 3:=rfl
  have b1 : ((1 : Int) == 0) = false:=rfl
  have b2 : ((2 : Int) == 0) = false:=rfl
  have b3 : ((2 : Int) == 1) = false:=rfl
  cases p with
  | nil =>
    rw [moreR]
    rw [F.zb.L2_dog_reader_more]
    unfold F.zb.L2_dog_reader_more.step
    dsimp only
    rw [zd (by omega),beq_self_eq_true,cond_true,zek,za,Bool.not_false,cond_true,w1,F.zb.L2_dog_reader_more]
    unfold F.zb.L2_dog_reader_more.step
    dsimp only
    rw [zd (by omega),b1,beq_self_eq_true,cond_true,cond_false,zek,za,Bool.not_false,cond_true,w2,F.zb.L2_dog_reader_more]
    unfold F.zb.L2_dog_reader_more.step
    dsimp only
    rw [zd (by omega),b2,b3,beq_self_eq_true,cond_true,cond_false,cond_false,zek,za,Bool.not_false,cond_true,w3,F.zb.L2_dog_reader_more]
    unfold F.zb.L2_dog_reader_more.step
    dsimp only
    rw [zg (by omega)]
    exact hk0
  | cons x s =>
    simp only [List.length_cons] at hs
    rw [moreR]
    rw [F.zb.L2_dog_reader_more]
    unfold F.zb.L2_dog_reader_more.step
    dsimp only
    rw [zd (by omega),beq_self_eq_true,cond_true,zfm,za,w1,hw0]
    by_cases h64 : x = 64
    · rw [if_pos h64,if_pos h64]
      dsimp only
      rw [Bool.not_true,cond_false,bdec]
      by_cases hl : 0 < last
      · rw [if_pos hl,if_pos hl]; exact hk0
      · rw [if_neg hl,if_neg hl,zl3 n (by omega) s (by omega) (by omega),za,zvo]
        by_cases h0 : (rateR s).2.1.1 = 0
        · rw [decide_eq_true h0,Bool.not_true,cond_false]
          by_cases h2 : e1 = 2
          · rw [h2,beq_self_eq_true,cond_true]
            by_cases h1 : (rateR s).1 = 1000000
            · rw [h1,beq_self_eq_true,Bool.not_true,cond_false,if_neg (by simp [h0])]
            · rw [beq_eq_false_iff_ne.2 h1,Bool.not_false,cond_true,if_pos (by simp [h1])]
              rw [h2] at hbad
              exact hbad _ _ (by decide)
          · rw [beq_eq_false_iff_ne.2 h2,cond_false,if_neg (by simp [h0,h2])]
        · rw [decide_eq_false h0,Bool.not_false,cond_true,if_pos (by simp [h0])]
          exact hbad _ _ (by decide)
    rw [if_neg h64,if_neg h64]
    dsimp only
    rw [Bool.not_false,cond_true]
    rw [F.zb.L2_dog_reader_more]
    unfold F.zb.L2_dog_reader_more.step
    dsimp only
    rw [zd (by omega),b1,beq_self_eq_true,cond_false,cond_true,zfm,za,w2,hw0]
    by_cases h35 : x = 35
    · rw [if_pos h35,if_pos h35]
      dsimp only
      rw [Bool.not_true,cond_false,bdec]
      by_cases hl : 1 < last
      · rw [if_pos hl,if_pos hl]; exact hk0
      · have hsl:=za2 44 s
        have hsn:=zbq (splitL 44 s)
        rw [if_neg hl,if_neg hl,znq n hn s (by omega),za]
        cases hT : tagsR (splitL 44 s) [] 0 with
        | error e =>
          dsimp only
          rw [show ((19 : Int) == 0) = false from rfl,Bool.false_and,Bool.not_false,cond_true]
          exact hbad _ _ (by decide)
        | ok l =>
          have hll:=zj0 _ _ _ _ hT
          simp only [List.length_nil,Nat.zero_add] at hll
          dsimp only
          rw [beq_self_eq_true,Bool.and_self,Bool.not_true,cond_false,bdec]
          by_cases h32 : 32 < l.length
          · rw [if_pos (by omega),if_pos h32]
            exact hbad _ _ (by decide)
          · rw [if_neg (by omega),if_neg h32,zfl n hn l (by omega),za]
    rw [if_neg h35,if_neg h35]
    dsimp only
    rw [Bool.not_false,cond_true]
    rw [F.zb.L2_dog_reader_more]
    unfold F.zb.L2_dog_reader_more.step
    dsimp only
    rw [zd (by omega),b2,b3,beq_self_eq_true,cond_false,cond_false,cond_true,zfm,za,w3,hw0]
    by_cases h84 : x = 84
    · rw [if_pos h84,if_pos h84]
      dsimp only
      rw [Bool.not_true,cond_false,bdec]
      by_cases hl : 2 < last
      · rw [if_pos hl,if_pos hl]; exact hk0
      · rw [if_neg hl,if_neg hl,zop n s (by omega) (by omega),za,zvp]
        by_cases h0 : (parseNum s 1 1099511627776).2.1.1 = 0
        · rw [decide_eq_true h0,Bool.not_true,cond_false,if_neg (by simp [h0])]
        · rw [decide_eq_false h0,Bool.not_false,cond_true,if_pos h0]
          exact hbad _ _ (by decide)
    rw [if_neg h84,if_neg h84]
    dsimp only
    rw [Bool.not_false,cond_true]
    rw [F.zb.L2_dog_reader_more]
    unfold F.zb.L2_dog_reader_more.step
    dsimp only
    rw [zg (by omega)]
    exact hk0
structure K8OK (s : List UInt8) (ps : List (List UInt8)) (k0 : K8) : Prop where
  bad : ∀ c0 c1 c2 c3 c4 c5 d0 d1 e0 e1 e2 e3 e4 e5 e6 e7 e a q0 q1 q2,e ≠ 0→k0 s ps c0 c1 c2 c3 c4 c5 d0 d1 e0 e1 e2 e3 e4 e5 e6 e7 e a q0 q1 q2 = some (badP e a)
  ok : 2 ≤ ps.length→∀ c0 c1 c2 c3 c4 c5 d0 d1 e0 e1 e2 e3 e4 e5 e6 e7 q0 q1 q2,k0 s ps c0 c1 c2 c3 c4 c5 d0 d1 e0 e1 e2 e3 e4 e5 e6 e7 0 0 q0 q1 q2 = some ((e0,e1,e2,e3,e4,e5,()),(0,0,()),())
  one : ps.length < 2→∀ c0 c1 c2 c3 c4 c5 d0 d1 e0 e1 e2 e3 e4 e5 e6 e7 q0 q1 q2,k0 s ps c0 c1 c2 c3 c4 c5 d0 d1 e0 e1 e2 e3 e4 e5 e6 e7 0 0 q0 q1 q2 = some (badP 11 (s.length : Int))
theorem zot {a : Int} (p : List UInt8) (h : 0 ≤ a ∧ a + p.length + 1 ≤ 100000) : IntKind.wrap .i64 (a + IntKind.wrap .i64 ((p.length : Int) + 1)) = a + p.length + 1:=by
  rw [zh (by omega),zi (by omega)]; omega
theorem zpx (n : Nat) (hn : 200000 ≤ n) (k0 : K8) (s : List UInt8) (ps : List (List UInt8)) (hs : sumL ps ≤ 9000) (hk : K8OK s ps k0) (h2 : 2 ≤ ps.length)
    (c0 : List UInt8) (c1 : Int) (c2 : List DecL) (c3 : Int) (c4 : List TagL) (c5 d0 d1 : Int) (q0 q1 q2 : Nat) :
    ∀ (r : List (List UInt8)) (a : Int) (w : MetD) (last : Int) (i m : Nat),ps.drop i = r→2 ≤ i→i ≤ ps.length→r.length < m→0 ≤ a→a + sumL r ≤ 10000 →
    F.zb.L8 n k0 m s ps ps (ps.length : Int) (i : Int) c0 c1 c2 c3 c4 c5 d0 d1 w.1 w.2.1 w.2.2.1 w.2.2.2.1 w.2.2.2.2.1 w.2.2.2.2.2.1 a last 0 0 q0 q1 q2 = some (outP (restR r a w last)):=by
  intro r
  have hpl:=zbq ps
  induction r with
  | nil =>
    intro a w last i m h1 hi2 hi hm ha has
    obtain ⟨m,rfl⟩ : ∃ q,m = q + 1:=⟨m - 1,by omega⟩
    rw [F.zb.L8]
    unfold F.zb.L8.step
    dsimp only
    rw [zg (by have:=zm h1; omega),restR]
    exact hk.ok h2 _ _ _ _ _ _ _ _ _ _ _ _ _ _ _ _ _ _ _
  | cons p r ih =>
    intro a w last i m h1 hi2 hi hm ha has
    obtain ⟨m,rfl⟩ : ∃ q,m = q + 1:=⟨m - 1,by simp at hm; omega⟩
    obtain ⟨l1,g1,t1⟩:=zk h1
    simp only [List.length_cons] at hm
    simp only [sumL,List.map_cons,List.sum_cons] at has
    have hp:=zc3 (List.mem_of_getElem? g1)
    have hw0 : IntKind.wrap .i64 (a + 0) = a:=by rw [Int.add_zero,zi (by omega)]
    rw [F.zb.L8]
    unfold F.zb.L8.step
    dsimp only
    rw [zd (by omega),zr,g1,za,zg (by omega : ¬ (i : Int) < 2)]
    refine (zyg n hn _ _ p (by omega) c0 c1 c2 c3 c4 c5 d0 d1 w.1 w.2.1 w.2.2.1 w.2.2.2.1 w.2.2.2.2.1 w.2.2.2.2.2.1 a last 0 0 q0 q1 q2 (by omega) ?_ ?_ n (by omega)).trans ?_
    · rw [hw0,Bool.false_and,Bool.not_false,cond_true]
      exact hk.bad _ _ _ _ _ _ _ _ _ _ _ _ _ _ _ _ _ _ _ _ _ (by decide)
    · intro l e he
      rw [beq_eq_false_iff_ne.2 he,Bool.false_and,Bool.not_false,cond_true]
      exact hk.bad _ _ _ _ _ _ _ _ _ _ _ _ _ _ _ _ _ _ _ _ _ he
    · have hww : (w.1,w.2.1,w.2.2.1,w.2.2.2.1,w.2.2.2.2.1,w.2.2.2.2.2.1,()) = w:=rfl
      rw [hww,restR]
      cases moreR w last p with
      | error e => rfl
      | ok x =>
        obtain ⟨w',l'⟩:=x
        dsimp only
        rw [zot p (by omega),zh (by omega)]
        exact ih (a + p.length + 1) w' l' (i + 1) m t1 (by omega) (by omega) (by omega) (by omega) (by simp only [sumL]; omega)
theorem nameB (s : List UInt8) : (((textF 1 s 1 200).1 == 0) && ((textF 1 s 1 200).2.1 == 0)) = nameOK s:=zcp 1 s 1 200
theorem zvq (n : Nat) (hn : 200000 ≤ n) (k0 : K8) (s : List UInt8) (ps : List (List UInt8)) (hne : ps ≠ []) (hs : sumL ps ≤ 9000) (hsl : s.length ≤ 9000) (hk : K8OK s ps k0) (c0 : List UInt8) (c1 : Int) (c2 : List DecL) (c3 : Int) (c4 : List TagL) (c5 d0 d1 : Int) (q0 q1 : Nat) :
    F.zb.L8 n k0 n s ps ps (ps.length : Int) (0 : Int) c0 c1 c2 c3 c4 c5 d0 d1 [] 0 [] 1000000 [] 0 0 0 0 0 q0 q1 0 = some (outP (linesR s ps)):=by
  have hpl:=zbq ps
  cases ps with
  | nil => exact absurd rfl hne
  | cons p r =>
    obtain ⟨m,hm⟩ : ∃ q,n = q + 2:=⟨n - 2,by omega⟩
    have hp:=zc3 (show p ∈ p :: r by simp)
    have hseg:=zam 58 p
    have hrn:=zmk 58 p
    have hcut : F.zaa n p [58] = some (seg 58 p,restN 58 p,decide (58 ∈ p),()):=zby n 58 (by omega)
    have hw0 : ∀ x : Int,0 ≤ x ∧ x ≤ 100000→IntKind.wrap .i64 (0 + x) = x:=fun x hx => by rw [Int.zero_add,zi (by omega)]
    have key : ∀ m,20001 ≤ m + 1→F.zb.L8 n k0 (m + 1) s (p :: r) (p :: r) ((p :: r).length : Int) (0 : Int) c0 c1 c2 c3 c4 c5 d0 d1 [] 0 [] 1000000 [] 0 0 0 0 0 q0 q1 0 = match firstR p with
        | .error e => some (badP e.1 e.2)
        | .ok x => F.zb.L8 n k0 m s (p :: r) (p :: r) ((p :: r).length : Int) ((1 : Nat) : Int) c0 c1 c2 c3 c4 c5 d0 d1 x.1 0 x.2 1000000 [] 0 ((p.length : Int) + 1) 0 0 0 q0 q1 x.2.length:=by
      intro m hm
      rw [F.zb.L8]
      unfold F.zb.L8.step
      dsimp only
      rw [zd (by simp only [List.length_cons]; omega),show idx (p :: r) 0 = some p from rfl,za,zd (by omega : (0 : Int) < 2),beq_self_eq_true,cond_true,hcut,za]
      dsimp only
      rw [zbe n 1 _ 1 200 (by omega) (by omega),za,nameB]
      unfold firstR
      cases hnm : nameOK (seg 58 p)
      · rw [Bool.not_false,cond_true,if_pos rfl,hw0 0 (by omega),Bool.false_and,Bool.not_false,cond_true]
        exact hk.bad _ _ _ _ _ _ _ _ _ _ _ _ _ _ _ _ _ _ _ _ _ (by decide)
      · rw [Bool.not_true,cond_false,if_neg (by simp)]
        by_cases hin : (58 : UInt8) ∈ p
        · rw [decide_eq_true hin,Bool.not_true,cond_false,if_neg (by simp [hin]),zg6 n 58 (by omega),za]
          have hsum:=za2 58 (restN 58 p)
          have hsn:=zbq (splitL 58 (restN 58 p))
          have hrl : (seg 58 p).length + 1 + (restN 58 p).length ≤ p.length:=by
            unfold restN
            rw [if_pos hin,List.length_drop]
            have:=za6 hin
            omega
          have hA : IntKind.wrap .i64 (((seg 58 p).length : Int) + 1) = ((seg 58 p).length : Int) + 1:=zi (by omega)
          have hP : IntKind.wrap .i64 ((p.length : Int) + 1) = (p.length : Int) + 1:=zi (by omega)
          rw [hA,hP]
          refine (zpw n hn _ _ (splitL 58 (restN 58 p)) (by omega) c0 c1 c2 c3 c4 c5 d0 d1 (seg 58 p) 0 1000000 [] 0 0 0 0 q0 q1 ?_ (splitL 58 (restN 58 p)) [] _ 0 n rfl (by simp) (by omega) (by omega) (by omega) (by omega)).trans ?_
          · intro acc a l
            rw [show ((17 : Int) == 0) = false from rfl,Bool.false_and,Bool.not_false,cond_true]
            exact hk.bad _ _ _ _ _ _ _ _ _ _ _ _ _ _ _ _ _ _ _ _ _ (by decide)
          · cases readVals (splitL 58 (restN 58 p)) [] (((seg 58 p).length : Int) + 1) with
            | error b => rfl
            | ok vs =>
              dsimp only
              rw [Bool.and_self,Bool.not_true,cond_false,hw0 ((p.length : Int) + 1) (by omega)]
              rfl
        · rw [decide_eq_false hin,Bool.not_false,cond_true,if_pos hin,hw0 _ (by omega),Bool.false_and,Bool.not_false,cond_true]
          exact hk.bad _ _ _ _ _ _ _ _ _ _ _ _ _ _ _ _ _ _ _ _ _ (by decide)
    have key2 : ∀ m,20001 ≤ m + 1→∀ nm (vs : List DecL) (a : Int) (l : Nat),a = (p.length : Int) + 1→F.zb.L8 n k0 (m + 1) s (p :: r) (p :: r) ((p :: r).length : Int) ((1 : Nat) : Int) c0 c1 c2 c3 c4 c5 d0 d1 nm 0 vs 1000000 [] 0 a 0 0 0 q0 q1 l = some (outP (secondR s p nm vs r)):=by
      intro m hm nm vs a l hA
      rw [F.zb.L8]
      unfold F.zb.L8.step
      dsimp only
      cases r with
      | nil =>
        rw [zg (by simp),secondR]
        exact hk.one (by simp) _ _ _ _ _ _ _ _ _ _ _ _ _ _ _ _ _ _ _
      | cons q r =>
        have hq:=zc3 (show q ∈ p :: q :: r by simp)
        rw [zd (by simp only [List.length_cons]; omega),show idx (p :: q :: r) ((1 : Nat) : Int) = some q from rfl,za,zd (by omega),show (((1 : Nat) : Int) == 0) = false from rfl,cond_false,show (((1 : Nat) : Int) == 1) = true from rfl,cond_true,zyf n (by omega),za]
        have hwa : IntKind.wrap .i64 (a + 0) = a:=by rw [Int.add_zero,zi (by omega)]
        rw [secondR]
        by_cases h0 : kindR q = 0
        · rw [if_pos h0,if_pos h0]
          dsimp only
          rw [show ((16 : Int) == 0) = false from rfl,Bool.not_false,cond_true,Bool.false_and,Bool.not_false,cond_true,hwa,hA]
          exact hk.bad _ _ _ _ _ _ _ _ _ _ _ _ _ _ _ _ _ _ _ _ _ (by decide)
        · rw [if_neg h0,if_neg h0]
          dsimp only
          rw [beq_self_eq_true,Bool.not_true,cond_false,Bool.and_self,Bool.not_true,cond_false]
          simp only [sumL,List.map_cons,List.sum_cons,List.length_cons] at hs hpl
          rw [zot q (by omega),show IntKind.wrap .i64 (((1 : Nat) : Int) + 1) = ((2 : Nat) : Int) from rfl,hA]
          have:=zpx n hn k0 s (p :: q :: r) (by simp only [sumL,List.map_cons,List.sum_cons]; omega) hk (by simp) c0 c1 c2 c3 c4 c5 d0 d1 q0 q1 l r ((p.length : Int) + 1 + (q.length + 1)) (nm,kindR q,vs,1000000,[],0,()) 0 2 m rfl (by omega) (by simp) (by omega) (by omega) (by simp only [sumL]; omega)
          rw [show (p.length : Int) + 1 + (q.length + 1) = (p.length : Int) + 1 + q.length + 1 by omega] at this ⊢
          exact this
    have k1:=key (m + 1) (by omega)
    have k2:=key2 m (by omega)
    have hmm : n = m + 1 + 1:=hm
    rw [linesR]
    have goal : ∀ j,j = m + 1 + 1→F.zb.L8 n k0 j s (p :: r) (p :: r) ((p :: r).length : Int) (0 : Int) c0 c1 c2 c3 c4 c5 d0 d1 [] 0 [] 1000000 [] 0 0 0 0 0 q0 q1 0 = some (outP (match firstR p with
      | .error e => .error e
      | .ok x => secondR s p x.1 x.2 r)):=by
      intro j hj
      rw [hj,k1]
      cases firstR p with
      | error e => rfl
      | ok x => exact k2 x.1 x.2 _ _ rfl
    exact goal n hmm
theorem zvr (n : Nat) (hn : 200000 ≤ n) (s : List UInt8) (hs : s.length ≤ 1000000) : F.zb n s = some (parseD s):=by
  unfold F.zb parseD
  rw [bdec]
  by_cases h : 8192 < s.length
  · rw [if_pos (by omega),if_pos h]; rfl
  · rw [if_neg (by omega),if_neg h,zg6 n 124 hs,za]
    have hsum:=za2 124 s
    refine zvq n hn _ s (splitL 124 s) (zbs 124 s) (by omega) (by omega) ⟨?_,?_,?_⟩ [] 0 [] 0 [] 0 0 0 0 0
    · intro c0 c1 c2 c3 c4 c5 d0 d1 e0 e1 e2 e3 e4 e5 e6 e7 e a q0 q1 q2 he
      rw [beq_eq_false_iff_ne.2 he,Bool.false_and,cond_false,Bool.not_false,cond_true]
      rfl
    · intro h2 c0 c1 c2 c3 c4 c5 d0 d1 e0 e1 e2 e3 e4 e5 e6 e7 q0 q1 q2
      rw [beq_self_eq_true,Bool.and_self,cond_true,zg (by omega),Bool.not_true,cond_false]
    · intro h2 c0 c1 c2 c3 c4 c5 d0 d1 e0 e1 e2 e3 e4 e5 e6 e7 q0 q1 q2
      rw [beq_self_eq_true,Bool.and_self,cond_true,zd (by omega),Bool.false_and,Bool.not_false,cond_true]
      rfl
end Go.AM
set_option linter.unusedVariables false
set_option linter.unusedSimpArgs false
namespace Go.AM
theorem zg7 {m : MetD} (h : RightM m) (hs : StrictT m.2.2.2.2.1) : normM m = (m,0,()):=by
  have hv:=(zcr h).1
  have e1 : m.2.2.1.map normV = m.2.2.1:=by
    have : m.2.2.1.map normV = m.2.2.1.map id:=List.map_congr_left (fun d hd => (zvm (hv d hd).1 (hv d hd).2).2)
    rw [this,List.map_id]
  have e2 : valsM m = m:=by unfold valsM; rw [e1]
  unfold normM
  rw [e2,if_pos h.chk]
  unfold formM
  rw [e1,zmd hs]
theorem zpy (n : Nat) (hn : 200000 ≤ n) {m : MetD} (h : RightM m) (hs : StrictT m.2.2.2.2.1) : F.zg n m = some (lineD m,0,()):=by
  rw [zye n hn m h.ok]
  unfold lineM
  rw [zg7 h hs,if_pos rfl]
end Go.AM
set_option linter.unusedVariables false
set_option linter.unusedSimpArgs false
namespace Go.AM
theorem zvs {c : UInt8} {s : List UInt8} (h : c ∉ s) : seg c s = s ∧ restN c s = []:=⟨za7 h,by unfold restN; rw [if_neg h]⟩
end Go.AM
set_option linter.unusedVariables false
set_option linter.unusedSimpArgs false
namespace Go.AM
theorem zh4 : ∀ (r : List (List UInt8)) (acc : List TagL) (a : Int) (l : List TagL),tagsR r acc a = .ok l→(∀ t ∈ acc,tagGood t = true)→∀ t ∈ l,tagGood t = true
  | [],acc,a,l,h,hg => by cases h; exact hg
  | p :: r,acc,a,l,h,hg => by
    rw [tagsR] at h
    split at h
    · rename_i hc
      refine zh4 r _ _ _ h (fun t ht => ?_)
      rcases List.mem_append.1 ht with ht | ht
      · exact hg t ht
      · rw [List.mem_singleton.1 ht]; exact hc.1
    · cases h
theorem zyh {t : TagL} (h : TagS t) : TagLOK t:=⟨by have:=h.1; omega,by have:=h.2; omega⟩
end Go.AM
set_option linter.unusedVariables false
set_option linter.unusedSimpArgs false
namespace Go.AM
end Go.AM
set_option linter.unusedVariables false
set_option linter.unusedSimpArgs false
namespace Go.AM
structure InvM (m : MetD) : Prop where
  nm : nameOK m.1 = true
  kd : kindB m.2.1 = true
  vs : (∀ d ∈ m.2.2.1,DecLOK d ∧ decC d = 0) ∧ 1 ≤ m.2.2.1.length ∧ m.2.2.1.length ≤ 64
  rt : rateB m.2.1 m.2.2.2.1 = true
  tg : (∀ t ∈ m.2.2.2.2.1,tagGood t = true) ∧ m.2.2.2.2.1.length ≤ 32 ∧ StrictT m.2.2.2.2.1
  tm : timeB m.2.2.2.2.2.1 = true
theorem InvM.right {m : MetD} (h : InvM m) : RightM m:=by
  have hn:=zcg h.nm
  refine ⟨⟨by omega,⟨by have:=h.vs.2.2; omega,fun d hd => (h.vs.1 d hd).1⟩,by have:=h.tg.2.1; omega,fun t ht => zyh (zh0 (h.tg.1 t ht))⟩,?_⟩
  have hv : valsB m.2.2.1 = true:=by
    unfold valsB
    simp only [Bool.and_eq_true,decide_eq_true_eq]
    exact ⟨h.vs.2.1,h.vs.2.2,List.all_eq_true.2 (fun d hd => by simp [(h.vs.1 d hd).2])⟩
  have ht : tagsB m.2.2.2.2.1 = true:=by
    unfold tagsB
    simp only [Bool.and_eq_true,decide_eq_true_eq]
    exact ⟨h.tg.2.1,List.all_eq_true.2 h.tg.1⟩
  unfold chkM
  rw [h.nm,h.kd,hv,h.rt,ht,h.tm]
  rfl
theorem RightM.inv {m : MetD} (h : RightM m) (hs : StrictT m.2.2.2.2.1) : InvM m:=by
  obtain ⟨c1,c2,c3,c4,c5,c6⟩:=zbp h.chk
  have ht:=zh3 h
  exact ⟨c1,c2,zcr h,c4,⟨fun t htm => (ht.1 t htm).2,ht.2,hs⟩,c6⟩
theorem zpz {p : List UInt8} (h : (parseR p).2.1.1 = 0) : DecLOK ((parseR p).1.1,(parseR p).1.2.1,(parseR p).1.2.2.1) ∧ decC ((parseR p).1.1,(parseR p).1.2.1,(parseR p).1.2.2.1) = 0:=by
  obtain ⟨neg,c,e,h1,h2,h3,h4⟩:=zg2 h
  rw [h1]
  refine ⟨⟨trivial,⟨by simp,?_⟩,h3⟩,h4⟩
  have:=z7
  simp only
  omega
theorem zgm : ∀ (r : List (List UInt8)) (acc : List DecL) (a : Int) (vs : List DecL),readVals r acc a = .ok vs→(∀ d ∈ acc,DecLOK d ∧ decC d = 0)→acc.length ≤ 64→(∀ d ∈ vs,DecLOK d ∧ decC d = 0) ∧ vs.length ≤ 64 ∧ vs.length = acc.length + r.length
  | [],acc,a,vs,h,hd,hl => by cases h; exact ⟨hd,hl,by simp⟩
  | p :: r,acc,a,vs,h,hd,hl => by
    rw [readVals] at h
    split at h
    · rename_i hc
      have hr:=zgm r _ _ _ h (fun d hd' => by
        rcases List.mem_append.1 hd' with hd' | hd'
        · exact hd d hd'
        · rw [List.mem_singleton.1 hd']; exact zpz hc.1) (by simp; omega)
      refine ⟨hr.1,hr.2.1,?_⟩
      have:=hr.2.2
      simp at this ⊢
      omega
    · cases h
theorem zfn : ∀ (r : List (List UInt8)) (acc : List DecL) (a b : Int),readVals r acc a = .error b→a ≤ b ∧ b < a + sumL r
  | [],acc,a,b,h => by cases h
  | p :: r,acc,a,b,h => by
    rw [readVals] at h
    simp only [sumL,List.map_cons,List.sum_cons]
    split at h
    · have:=zfn r _ _ _ h
      simp only [sumL] at this
      omega
    · cases h; omega
theorem zvt {s : List UInt8} (h : kindR s ≠ 0) : kindB (kindR s) = true:=by
  revert h
  unfold kindR
  repeat' split
  all_goals first | (intro _; rfl) | (intro h; exact absurd rfl h)
theorem zvu {m : MetD} (h : InvM m) {last : Int} {p : List UInt8} {m' : MetD} {l : Int} (hr : moreR m last p = .ok (m',l)) : InvM m':=by
  cases p with
  | nil => cases hr
  | cons x s =>
    rw [moreR] at hr
    split at hr
    · split at hr
      · cases hr
      · split at hr
        · cases hr
        · rename_i hc
          cases hr
          have h0 : (rateR s).2.1.1 = 0:=Classical.byContradiction fun hh => hc (Or.inl hh)
          obtain ⟨_,r1,r2,_⟩:=zf1 h0
          refine ⟨h.nm,h.kd,h.vs,?_,h.tg,h.tm⟩
          unfold rateB
          simp only [Bool.and_eq_true,decide_eq_true_eq]
          refine ⟨r1,r2,?_⟩
          by_cases h2 : m.2.1 = 2
          · have : (rateR s).1 = 1000000:=Classical.byContradiction fun hh => hc (Or.inr ⟨h2,hh⟩)
            simp [this]
          · simp [h2]
    · split at hr
      · split at hr
        · cases hr
        · split at hr
          · cases hr
          · rename_i l' hT
            split at hr
            · cases hr
            · rename_i h32
              cases hr
              have hg:=zh4 _ _ _ _ hT (fun t ht => by cases ht)
              refine ⟨h.nm,h.kd,h.vs,h.rt,⟨fun t ht => hg t ((zcf _ _).1 ht),?_,zbg _⟩,h.tm⟩
              have:=zdi l'
              show (normT l').length ≤ 32
              omega
      · split at hr
        · split at hr
          · cases hr
          · split at hr
            · cases hr
            · rename_i hc
              cases hr
              have h0 : (parseNum s 1 1099511627776).2.1.1 = 0:=Classical.byContradiction hc
              obtain ⟨_,r1,r2,r3,r4,_⟩:=zcq h0
              refine ⟨h.nm,h.kd,h.vs,h.rt,h.tg,?_⟩
              unfold timeB
              simp only [Bool.and_eq_true,decide_eq_true_eq]
              rw [r1]
              omega
        · cases hr
theorem zsj {m : MetD} {last : Int} {p : List UInt8} {e : Int} (hr : moreR m last p = .error e) : e ≠ 0:=by
  cases p with
  | nil => cases hr; decide
  | cons x s =>
    rw [moreR] at hr
    split at hr
    · split at hr
      · cases hr; decide
      · split at hr <;> cases hr; decide
    · split at hr
      · split at hr
        · cases hr; decide
        · split at hr
          · cases hr; decide
          · split at hr <;> cases hr; decide
      · split at hr
        · split at hr
          · cases hr; decide
          · split at hr <;> cases hr; decide
        · cases hr; decide
theorem zml : ∀ (r : List (List UInt8)) (a : Int) (m : MetD) (last : Int),InvM m→(∀ m',restR r a m last = .ok m'→InvM m') ∧ (∀ e b,restR r a m last = .error (e,b)→e ≠ 0 ∧ a ≤ b ∧ b < a + sumL r)
  | [],a,m,last,h => ⟨fun m' hr => by cases hr; exact h,fun e b hr => by cases hr⟩
  | p :: r,a,m,last,h => by
    rw [restR]
    simp only [sumL,List.map_cons,List.sum_cons]
    cases hm : moreR m last p with
    | error e => exact ⟨fun m' hr => (by cases hr),fun e b hr => by cases hr; exact ⟨zsj hm,by omega,by omega⟩⟩
    | ok x =>
      obtain ⟨m1,l1⟩:=x
      obtain ⟨h1,h2⟩:=zml r (a + p.length + 1) m1 l1 (zvu h hm)
      refine ⟨h1,fun e b hr => ?_⟩
      have:=h2 e b hr
      simp only [sumL] at this
      omega
theorem zsk {s : List UInt8} {nm : List UInt8} {vs : List DecL} (h : firstR s = .ok (nm,vs)) : nameOK nm = true ∧ (∀ d ∈ vs,DecLOK d ∧ decC d = 0) ∧ 1 ≤ vs.length ∧ vs.length ≤ 64:=by
  unfold firstR at h
  split at h
  · cases h
  · rename_i hnm
    split at h
    · cases h
    · split at h
      · rename_i vs' hv
        cases h
        obtain ⟨h1,h2,h3⟩:=zgm _ _ _ _ hv (fun d hd => by cases hd) (by simp)
        have:=List.length_pos_iff.2 (zbs 58 (restN 58 s))
        simp only [List.length_nil,Nat.zero_add] at h3
        exact ⟨by simpa using hnm,h1,by omega,h2⟩
      · cases h
theorem zel {s : List UInt8} {e a : Int} (h : firstR s = .error (e,a)) : e ≠ 0 ∧ 0 ≤ a ∧ a ≤ s.length:=by
  unfold firstR at h
  split at h
  · cases h; exact ⟨by decide,by omega,by omega⟩
  · split at h
    · cases h; exact ⟨by decide,by omega,by omega⟩
    · rename_i hin
      split at h
      · cases h
      · rename_i b hv
        cases h
        have h1:=zfn _ _ _ _ hv
        have h2:=za2 58 (restN 58 s)
        have hin' : (58 : UInt8) ∈ s:=Classical.byContradiction hin
        have h3 : (restN 58 s).length = s.length - ((seg 58 s).length + 1):=by unfold restN; rw [if_pos hin',List.length_drop]
        have h4:=za6 hin'
        exact ⟨by decide,by omega,by omega⟩
theorem zsl (s : List UInt8) (ps : List (List UInt8)) (hsum : sumL ps = s.length + 1) : (∀ m,linesR s ps = .ok m→InvM m) ∧ (∀ e a,linesR s ps = .error (e,a)→e ≠ 0 ∧ 0 ≤ a ∧ a ≤ s.length):=by
  cases ps with
  | nil => exact ⟨fun m h => (by cases h),fun e a h => by cases h; exact ⟨by decide,by omega,by omega⟩⟩
  | cons p r =>
    simp only [sumL,List.map_cons,List.sum_cons] at hsum
    rw [linesR]
    cases hf : firstR p with
    | error x =>
      obtain ⟨e,a⟩:=x
      refine ⟨fun m h => (by cases h),fun e a h => ?_⟩
      cases h
      have:=zel hf
      exact ⟨this.1,this.2.1,by omega⟩
    | ok x =>
      obtain ⟨nm,vs⟩:=x
      obtain ⟨h1,h2,h3,h4⟩:=zsk hf
      dsimp only
      cases r with
      | nil =>
        rw [secondR]
        exact ⟨fun m h => (by cases h),fun e a h => by cases h; exact ⟨by decide,by omega,by omega⟩⟩
      | cons q r =>
        simp only [List.map_cons,List.sum_cons] at hsum
        rw [secondR]
        by_cases h0 : kindR q = 0
        · rw [if_pos h0]
          exact ⟨fun m h => (by cases h),fun e a h => by cases h; exact ⟨by decide,by omega,by omega⟩⟩
        · rw [if_neg h0]
          have inv : InvM (nm,kindR q,vs,1000000,[],0,()):=⟨h1,zvt h0,⟨h2,h3,h4⟩,by
            unfold rateB; simp,⟨fun t ht => (by cases ht),by simp,List.Pairwise.nil⟩,(show timeB 0 = true by decide)⟩
          obtain ⟨g1,g2⟩:=zml r ((p.length : Int) + 1 + (q.length + 1)) _ 0 inv
          refine ⟨g1,fun e a h => ?_⟩
          have:=g2 e a h
          simp only [sumL] at this
          omega
theorem zfo (s : List UInt8) : ((parseD s).2.1 = (0,0,()) ∧ InvM (parseD s).1) ∨ (∃ e a,e ≠ 0 ∧ 0 ≤ a ∧ a ≤ (s.length : Int) ∧ parseD s = badP e a):=by
  unfold parseD
  split
  · exact Or.inr ⟨12,0,by decide,by omega,by omega,rfl⟩
  · obtain ⟨h1,h2⟩:=zsl s (splitL 124 s) (za2 124 s)
    cases hl : linesR s (splitL 124 s) with
    | ok m => exact Or.inl ⟨rfl,h1 m hl⟩
    | error x =>
      obtain ⟨e,a⟩:=x
      obtain ⟨g1,g2,g3⟩:=h2 e a hl
      exact Or.inr ⟨e,a,g1,g2,g3,rfl⟩
end Go.AM
set_option linter.unusedVariables false
set_option linter.unusedSimpArgs false
namespace Go.AM
theorem zh5 {c : UInt8} {a : List UInt8} (h : c ∉ a) (t : List UInt8) : splitL c (a ++ c :: t) = a :: splitL c t:=by
  rw [zej,if_pos (by simp)]
  have e:=zbi h t
  have e2 : restN c (a ++ c :: t) = t:=by
    unfold restN
    rw [if_pos (by simp),e]
    simp
  rw [e,e2]
theorem zeu (c : UInt8) (y : List UInt8) (r : List (List UInt8)) : Lib.joinTail [c] (y :: r) = c :: Lib.join (y :: r) [c]:=by
  rw [Lib.join_cons]; simp [Lib.joinTail]
theorem zca {c : UInt8} : ∀ (l : List (List UInt8)),l ≠ []→(∀ x ∈ l,c ∉ x)→splitL c (Lib.join l [c]) = l
  | [],h,_ => absurd rfl h
  | [x],_,h => by rw [Lib.join_one,zdo c x (h x (by simp))]
  | x :: y :: r,_,h => by
    rw [Lib.join_cons,zeu,zh5 (h x (by simp)),zca (y :: r) (by simp) (fun z hz => h z (List.mem_cons_of_mem _ hz))]
theorem zmm : ∀ i : Fin 256,(cls 1 (UInt8.ofNat i.val) = true→UInt8.ofNat i.val ≠ 58 ∧ UInt8.ofNat i.val ≠ 124) ∧ (cls 2 (UInt8.ofNat i.val) = true→UInt8.ofNat i.val ≠ 58 ∧ UInt8.ofNat i.val ≠ 124 ∧ UInt8.ofNat i.val ≠ 44) ∧ (cls 3 (UInt8.ofNat i.val) = true→UInt8.ofNat i.val ≠ 124 ∧ UInt8.ofNat i.val ≠ 44) ∧ (isDig (UInt8.ofNat i.val) = true→UInt8.ofNat i.val ≠ 58 ∧ UInt8.ofNat i.val ≠ 124):=by decide +kernel
theorem za3 (b : UInt8) : (cls 1 b = true→b ≠ 58 ∧ b ≠ 124) ∧ (cls 2 b = true→b ≠ 58 ∧ b ≠ 124 ∧ b ≠ 44) ∧ (cls 3 b = true→b ≠ 124 ∧ b ≠ 44) ∧ (isDig b = true→b ≠ 58 ∧ b ≠ 124):=by
  have h:=zmm ⟨b.toNat,by have:=b.toNat_lt; omega⟩
  simpa using h
theorem zh6 {s : List UInt8} (h : nameOK s = true) : (58 : UInt8) ∉ s ∧ (124 : UInt8) ∉ s:=by
  rw [zdh] at h
  simp only [Bool.and_eq_true] at h
  exact ⟨fun hm => ((za3 58).1 (List.all_eq_true.1 h.1 _ hm)).1 rfl,fun hm => ((za3 124).1 (List.all_eq_true.1 h.1 _ hm)).2 rfl⟩
theorem zj1 {t : TagL} (h : tagGood t = true) : (58 : UInt8) ∉ t.1 ∧ (124 : UInt8) ∉ t.1 ∧ (44 : UInt8) ∉ t.1 ∧ (124 : UInt8) ∉ t.2 ∧ (44 : UInt8) ∉ t.2:=by
  unfold tagGood at h
  simp only [Bool.and_eq_true,beq_iff_eq] at h
  have h1:=(za1 h.1).2.2
  have h2:=(za1 h.2).2.2
  exact ⟨fun hm => ((za3 58).2.1 (List.all_eq_true.1 h1 _ hm)).1 rfl,fun hm => ((za3 124).2.1 (List.all_eq_true.1 h1 _ hm)).2.1 rfl,fun hm => ((za3 44).2.1 (List.all_eq_true.1 h1 _ hm)).2.2 rfl,
    fun hm => ((za3 124).2.2.1 (List.all_eq_true.1 h2 _ hm)).1 rfl,fun hm => ((za3 44).2.2.1 (List.all_eq_true.1 h2 _ hm)).2 rfl⟩
theorem zj2 {t : TagL} (h : tagGood t = true) : (124 : UInt8) ∉ oneT t ∧ (44 : UInt8) ∉ oneT t:=by
  obtain ⟨h1,h2,h3,h4,h5⟩:=zj1 h
  unfold oneT
  split
  · exact ⟨h2,h3⟩
  · exact ⟨by simp [h2,h4],by simp [h3,h5]⟩
theorem zj3 {l : List UInt8} (h : Digs l) : (58 : UInt8) ∉ l ∧ (124 : UInt8) ∉ l:=
  ⟨fun hm => ((za3 58).2.2.2 (List.all_eq_true.1 h _ hm)).1 rfl,fun hm => ((za3 124).2.2.2 (List.all_eq_true.1 h _ hm)).2 rfl⟩
theorem zgn (d : DecL) : (58 : UInt8) ∉ textL d ∧ (124 : UInt8) ∉ textL d:=by
  refine ⟨fun hm => ?_,zhz _ _ _⟩
  rcases zbj _ _ _ _ hm with ⟨h,_⟩ | h | h
  · cases h
  · exact absurd h (by decide)
  · cases h
theorem zev : ∀ (vs : List DecL) (acc : List DecL) (a : Int),(∀ d ∈ vs,DecLOK d ∧ decC d = 0)→acc.length + vs.length ≤ 64→readVals (vs.map textL) acc a = .ok (acc ++ vs)
  | [],acc,a,_,_ => by simp [readVals]
  | d :: vs,acc,a,h,hl => by
    obtain ⟨hd,h0⟩:=h d (by simp)
    obtain ⟨neg,c,e,rfl,hc,he⟩:=zaz hd
    have hp : parseR (textL (neg,(c : Int),e)) = ((neg,(c : Int),e,()),(0,0,()),()):=zee neg c hc e h0
    simp only [List.length_cons] at hl
    rw [List.map_cons,readVals,hp,if_pos ⟨rfl,by omega⟩,zev vs _ _ (fun x hx => h x (List.mem_cons_of_mem _ hx)) (by simp; omega)]
    simp
theorem zsm {t : TagL} (h : tagGood t = true) : seg 58 (oneT t) = t.1 ∧ restN 58 (oneT t) = t.2 ∧ ¬ (58 ∈ oneT t ∧ t.2 = []):=by
  obtain ⟨h1,h2,h3,h4,h5⟩:=zj1 h
  unfold oneT
  by_cases h0 : t.2 = []
  · rw [if_pos h0]
    obtain ⟨e1,e2⟩:=zvs h1
    rw [e1,e2,h0]
    exact ⟨rfl,rfl,fun hh => h1 hh.1⟩
  · rw [if_neg h0]
    have e : t.1 ++ ([58] ++ t.2) = t.1 ++ 58 :: t.2:=by simp
    rw [e]
    have e1:=zbi h1 t.2
    refine ⟨e1,?_,fun hh => h0 hh.2⟩
    unfold restN
    rw [if_pos (by simp),e1]
    simp
theorem zh7 : ∀ (ts acc : List TagL) (a : Int),(∀ t ∈ ts,tagGood t = true)→tagsR (ts.map oneT) acc a = .ok (acc ++ ts)
  | [],acc,a,_ => by simp [tagsR]
  | t :: ts,acc,a,h => by
    obtain ⟨h1,h2,h3⟩:=zsm (h t (by simp))
    have hg : tagGood (t.1,t.2) = true:=h t (by simp)
    rw [List.map_cons,tagsR,h1,h2,if_pos ⟨hg,h3⟩,zh7 ts _ _ (fun x hx => h x (List.mem_cons_of_mem _ hx))]
    simp
theorem zp0 {vs : List DecL} (h : vs ≠ []) : valsT vs = 58 :: Lib.join (vs.map textL) [58]:=by
  cases vs with
  | nil => exact absurd rfl h
  | cons d vs =>
    rw [List.map_cons,← zeu]
    simp [valsT,Lib.joinTail]
    rfl
theorem zp1 {nm : List UInt8} {vs : List DecL} (hn : nameOK nm = true) (hv : (∀ d ∈ vs,DecLOK d ∧ decC d = 0) ∧ 1 ≤ vs.length ∧ vs.length ≤ 64) : firstR (nm ++ valsT vs) = .ok (nm,vs):=by
  have hne : vs ≠ []:=fun e => by have:=hv.2.1; rw [e] at this; simp at this
  have hb:=(zh6 hn).1
  rw [zp0 hne]
  have e1:=zbi hb (Lib.join (vs.map textL) [58])
  have e2 : restN 58 (nm ++ 58 :: Lib.join (vs.map textL) [58]) = Lib.join (vs.map textL) [58]:=by
    unfold restN
    rw [if_pos (by simp),e1]
    simp
  unfold firstR
  rw [e1,e2,if_neg (by simp [hn]),if_neg (by simp),zca (vs.map textL) (by simpa using hne) (fun x hx => by
    obtain ⟨d,_,rfl⟩:=List.mem_map.1 hx
    exact (zgn d).1),zev vs [] _ hv.1 (by simpa using hv.2.2)]
  rfl
theorem zsn {k : Int} (h : kindB k = true) : kindR (wordT k) = k:=by
  rcases zdj h with rfl | rfl | rfl | rfl | rfl <;> rfl
def rateQ (r : Int) : List (List UInt8):=if r = 1000000 then [] else [64 :: (rateText r).1]
def tagsQ (ts : List TagL) : List (List UInt8):=if ts = [] then [] else [35 :: tagText ts]
def timeQ (t : Int) : List (List UInt8):=if t = 0 then [] else [84 :: Lib.decDigits t.toNat]
def piecesD (m : MetD) : List (List UInt8):=(m.1 ++ valsT m.2.2.1) :: wordT m.2.1 :: (rateQ m.2.2.2.1 ++ tagsQ m.2.2.2.2.1 ++ timeQ m.2.2.2.2.2.1)
theorem zso (m : MetD) : lineD m = Lib.join (piecesD m) [124]:=by
  unfold lineD piecesD
  rw [Lib.join_cons]
  have : ∀ a b : List (List UInt8),Lib.joinTail [124] (a ++ b) = Lib.joinTail [124] a ++ Lib.joinTail [124] b:=fun a b => by simp [Lib.joinTail]
  rw [show wordT m.2.1 :: (rateQ m.2.2.2.1 ++ tagsQ m.2.2.2.2.1 ++ timeQ m.2.2.2.2.2.1) = [wordT m.2.1] ++ rateQ m.2.2.2.1 ++ tagsQ m.2.2.2.2.1 ++ timeQ m.2.2.2.2.2.1 by simp,this,this,this]
  have e1 : Lib.joinTail [124] [wordT m.2.1] = [124] ++ wordT m.2.1:=by simp [Lib.joinTail]
  have e2 : Lib.joinTail [124] (rateQ m.2.2.2.1) = rateP m.2.2.2.1:=by unfold rateQ rateP; split <;> simp [Lib.joinTail]
  have e3 : Lib.joinTail [124] (tagsQ m.2.2.2.2.1) = tagsP m.2.2.2.2.1:=by unfold tagsQ tagsP; split <;> simp [Lib.joinTail]
  have e4 : Lib.joinTail [124] (timeQ m.2.2.2.2.2.1) = timeP m.2.2.2.2.2.1:=by unfold timeQ timeP; split <;> simp [Lib.joinTail]
  rw [e1,e2,e3,e4]
  simp
theorem zmn {c : UInt8} {l : List (List UInt8)} (h : ∀ x ∈ l,c ∉ x) : c ∉ l.flatten:=fun hm => by
  obtain ⟨x,hx,hc⟩:=List.mem_flatten.1 hm
  exact h x hx hc
theorem zsp {c d : UInt8} (hcd : c ≠ d) {l : List (List UInt8)} (h : ∀ x ∈ l,c ∉ x) : c ∉ Lib.join l [d]:=by
  cases l with
  | nil => simp [Lib.join]
  | cons x l =>
    rw [Lib.join_cons]
    intro hm
    rcases List.mem_append.1 hm with hm | hm
    · exact h x (by simp) hm
    · unfold Lib.joinTail at hm
      refine zmn (l:=l.map ([d] ++ ·)) (fun y hy => ?_) hm
      obtain ⟨z,hz,rfl⟩:=List.mem_map.1 hy
      intro hc
      rcases List.mem_append.1 hc with hc | hc
      · exact hcd (List.mem_singleton.1 hc)
      · exact h z (List.mem_cons_of_mem _ hz) hc
theorem zj4 {k r : Int} (h : rateB k r = true) : (124 : UInt8) ∉ (rateText r).1 ∧ (r ≠ 1000000→rateR (rateText r).1 = numR r 0 0):=by
  obtain ⟨_,_,r1,r2⟩:=zei h
  by_cases e : r = 1000000
  · subst e; exact ⟨by decide,fun h => absurd rfl h⟩
  · have hf:=zai (k:=r) ⟨r1,by omega⟩
    have hp:=za0 (k:=r.toNat) (by omega)
    have ht:=zcd (pad6 r.toNat)
    have hr:=zjw r ⟨r1,by omega⟩ 0
    rw [hf]
    refine ⟨?_,fun _ => ?_⟩
    · have hd : Digs (trz (pad6 r.toNat)):=zbc hp.2.2.1
      have:=(zj3 hd).2
      simp [this]
    · rw [List.replicate_zero,List.append_nil,if_pos (by omega)] at hr
      exact hr
theorem znr {m : MetD} (h : InvM m) : ∀ x ∈ piecesD m,(124 : UInt8) ∉ x:=by
  unfold piecesD
  intro x hx
  rcases List.mem_cons.1 hx with rfl | hx
  · have h1:=(zh6 h.nm).2
    have h2 : (124 : UInt8) ∉ valsT m.2.2.1:=by
      unfold valsT
      refine zmn (fun y hy => ?_)
      obtain ⟨d,_,rfl⟩:=List.mem_map.1 hy
      have:=(zgn d).2
      simp [this]
    simp [h1,h2]
  rcases List.mem_cons.1 hx with rfl | hx
  · rcases zdj h.kd with e | e | e | e | e <;> rw [e] <;> decide
  rcases List.mem_append.1 hx with hx | hx
  · rcases List.mem_append.1 hx with hx | hx
    · unfold rateQ at hx
      split at hx
      · cases hx
      · rw [List.mem_singleton.1 hx]
        have:=(zj4 h.rt).1
        simp [this]
    · unfold tagsQ at hx
      split at hx
      · cases hx
      · rw [List.mem_singleton.1 hx]
        have : (124 : UInt8) ∉ tagText m.2.2.2.2.1:=zsp (by decide) (fun y hy => by
          obtain ⟨t,ht,rfl⟩:=List.mem_map.1 hy
          exact (zj2 (h.tg.1 t ht)).1)
        simp [this]
  · unfold timeQ at hx
    split at hx
    · cases hx
    · rw [List.mem_singleton.1 hx]
      have:=(zj3 (zaa m.2.2.2.2.2.1.toNat)).2
      simp [this]
theorem zsq {w : MetD} {r : Int} (h : rateB w.2.1 r = true) (hr : r ≠ 1000000) : moreR w 0 (64 :: (rateText r).1) = .ok ((w.1,w.2.1,w.2.2.1,r,w.2.2.2.2.1,w.2.2.2.2.2.1,()),1):=by
  have e:=(zj4 h).2 hr
  have hk : ¬ w.2.1 = 2:=fun h2 => by
    unfold rateB at h
    simp [h2,hr] at h
  rw [moreR,if_pos rfl,if_neg (by omega),e,if_neg (by rintro (hh | hh); exact hh rfl; exact hk hh.1)]
  rfl
theorem zsr {w : MetD} {ts : List TagL} {last : Int} (hl : last ≤ 1) (hne : ts ≠ []) (h : (∀ t ∈ ts,tagGood t = true) ∧ ts.length ≤ 32 ∧ StrictT ts) : moreR w last (35 :: tagText ts) = .ok ((w.1,w.2.1,w.2.2.1,w.2.2.2.1,ts,w.2.2.2.2.2.1,()),2):=by
  have e : splitL 44 (tagText ts) = ts.map oneT:=zca _ (by simpa using hne) (fun x hx => by
    obtain ⟨t,ht,rfl⟩:=List.mem_map.1 hx
    exact (zj2 (h.1 t ht)).2)
  rw [moreR,if_neg (by decide),if_pos rfl,if_neg (by omega),e,zh7 ts [] 0 h.1]
  dsimp only
  rw [List.nil_append,if_neg (by have:=h.2.1; omega),zmd h.2.2]
theorem zss {w : MetD} {t : Int} {last : Int} (hl : last ≤ 2) (h : timeB t = true) (h0 : t ≠ 0) : moreR w last (84 :: Lib.decDigits t.toNat) = .ok ((w.1,w.2.1,w.2.2.1,w.2.2.2.1,w.2.2.2.2.1,t,()),3):=by
  obtain ⟨_,t1,t2⟩:=zg5 h
  have e:=zl8 t.toNat (by omega) 1 1099511627776
  rw [if_neg (by omega)] at e
  rw [moreR,if_neg (by decide),if_neg (by decide),if_pos rfl,if_neg (by omega),e]
  have : ((t.toNat : Nat) : Int) = t:=by omega
  rw [this]
  rfl
theorem zem {p : List UInt8} {r : List (List UInt8)} {a : Int} {m m' : MetD} {last l' : Int} (h : moreR m last p = .ok (m',l')) : restR (p :: r) a m last = restR r (a + p.length + 1) m' l':=by
  rw [restR,h]
theorem zst {m : MetD} (h : InvM m) (a : Int) : restR (rateQ m.2.2.2.1 ++ tagsQ m.2.2.2.2.1 ++ timeQ m.2.2.2.2.2.1) a (m.1,m.2.1,m.2.2.1,1000000,[],0,()) 0 = .ok m:=by
  have time_back : ∀ (a : Int) (w : MetD) (last : Int),last ≤ 2→w.2.2.2.2.2.1 = 0→restR (timeQ m.2.2.2.2.2.1) a w last = .ok (w.1,w.2.1,w.2.2.1,w.2.2.2.1,w.2.2.2.2.1,m.2.2.2.2.2.1,()):=by
    intro a w last hl hw
    unfold timeQ
    by_cases e : m.2.2.2.2.2.1 = 0
    · rw [if_pos e,e,← hw]; rfl
    · rw [if_neg e,zem (zss hl h.tm e)]; rfl
  have tags_back : ∀ (a : Int) (w : MetD) (last : Int),last ≤ 1→w.2.2.2.2.2.1 = 0→w.2.2.2.2.1 = []→restR (tagsQ m.2.2.2.2.1 ++ timeQ m.2.2.2.2.2.1) a w last = .ok (w.1,w.2.1,w.2.2.1,w.2.2.2.1,m.2.2.2.2.1,m.2.2.2.2.2.1,()):=by
    intro a w last hl hw ht
    unfold tagsQ
    by_cases e : m.2.2.2.2.1 = []
    · rw [if_pos e,List.nil_append,time_back _ _ _ (by omega) hw,e,ht]
    · rw [if_neg e,List.singleton_append,zem (zsr hl e h.tg)]
      exact time_back _ (w.1,w.2.1,w.2.2.1,w.2.2.2.1,m.2.2.2.2.1,w.2.2.2.2.2.1,()) 2 (by omega) hw
  rw [List.append_assoc]
  unfold rateQ
  by_cases e : m.2.2.2.1 = 1000000
  · rw [if_pos e,List.nil_append,tags_back _ _ _ (by omega) rfl rfl,← e]
  · rw [if_neg e,List.singleton_append,zem (zsq (w:=(m.1,m.2.1,m.2.2.1,1000000,[],0,())) h.rt e),tags_back _ _ _ (by omega) rfl rfl]
theorem zvv {t : TagL} (h : tagGood t = true) : (oneT t).length ≤ 165:=by
  unfold tagGood at h
  simp only [Bool.and_eq_true,beq_iff_eq] at h
  have h1:=za1 h.1
  have h2:=za1 h.2
  unfold oneT
  split <;> simp <;> omega
theorem zns {ts : List TagL} (h : ∀ t ∈ ts,tagGood t = true) (hl : ts.length ≤ 32) : (tagText ts).length ≤ 5312:=by
  unfold tagText
  have:=zos [44] 165 (ts.map oneT) (fun x hx => by
    obtain ⟨t,ht,rfl⟩:=List.mem_map.1 hx
    exact zvv (h t ht))
  rw [List.length_map] at this
  have h2 : ts.length * (165 + [(44 : UInt8)].length) ≤ 32 * 166:=Nat.mul_le_mul_right _ hl
  omega
theorem zmo {m : MetD} (h : InvM m) : (lineD m).length ≤ 8192:=by
  have h1:=zcg h.nm
  have h2:=zmi h.vs.1
  have h3:=zh1 m.2.1
  have h4:=(zei h.rt).1
  have h6:=(zg5 h.tm).1
  have h5 : (tagsP m.2.2.2.2.1).length ≤ 5314:=by
    have:=zns h.tg.1 h.tg.2.1
    unfold tagsP
    split
    · simp
    · simp only [List.length_append,List.length_cons,List.length_nil]; omega
  have:=h.vs.2.2
  unfold lineD
  simp only [List.length_append,List.length_cons,List.length_nil]
  omega
theorem zp2 {m : MetD} (h : InvM m) : parseD (lineD m) = (m,(0,0,()),()):=by
  have hl:=zmo h
  unfold parseD
  rw [if_neg (by omega),zso,zca _ (by simp [piecesD]) (znr h)]
  unfold piecesD
  rw [linesR,zp1 h.nm h.vs]
  dsimp only
  rw [secondR,zsn h.kd,if_neg (by rcases zdj h.kd with e | e | e | e | e <;> rw [e] <;> decide),zst h]
  rfl
theorem zp3 (n : Nat) (a b : TagL) : F.zbq n (a.1,a.2,()) (b.1,b.2,()) = some (ltT a b):=by
  unfold F.zbq ltT
  dsimp only
  by_cases e : a.1 = b.1
  · rw [if_pos e,e,beq_self_eq_true]; rfl
  · rw [if_neg e,beq_eq_false_iff_ne.2 e]; rfl
theorem zp4 (n : Nat) (X : Type) (k0 : Unit→Option X) (kr : Bool→Option X) (l : List TagL) (hl : l.length ≤ 1000) (hs : StrictT l) : ∀ (j i m : Nat),i + j = l.length→1 ≤ i→j < m→F.za2.L2 n k0 kr m l (i : Int) = k0 ():=by
  intro j
  induction j with
  | zero =>
    intro i m h1 hi hm
    obtain ⟨m,rfl⟩ : ∃ q,m = q + 1:=⟨m - 1,by omega⟩
    rw [F.za2.L2]
    unfold F.za2.L2.step
    dsimp only
    rw [zg (by omega)]
  | succ j ih =>
    intro i m h1 hi hm
    obtain ⟨m,rfl⟩ : ∃ q,m = q + 1:=⟨m - 1,by omega⟩
    have hw : IntKind.wrap .i64 ((i : Int) - 1) = ((i - 1 : Nat) : Int):=by rw [zi (by omega)]; omega
    have hlt : ltT l[i - 1] l[i] = true:=List.pairwise_iff_getElem.1 hs (i - 1) i (by omega) (by omega) (by omega)
    rw [F.za2.L2]
    unfold F.za2.L2.step
    dsimp only
    rw [zd (by omega),hw,zcc (by omega : i - 1 < l.length),za,zcc (by omega : i < l.length),za,zp3,za,hlt,Bool.not_true,cond_false,zh (by omega),ih (i + 1) m (by omega) (by omega) (by omega)]
theorem zvw (n : Nat) (hn : 200000 ≤ n) (l : List TagL) (hl : l.length ≤ 1000) (hs : StrictT l) : F.za2 n l = some true:=by
  unfold F.za2
  by_cases h : l = []
  · subst h
    obtain ⟨m,rfl⟩ : ∃ q,n = q + 1:=⟨n - 1,by omega⟩
    rfl
  · have:=List.length_pos_iff.2 h
    exact zp4 n Bool _ _ l hl hs (l.length - 1) 1 n (by omega) (by omega) (by omega)
theorem zmp (n : Nat) (hn : 200000 ≤ n) {m : MetD} (h : InvM m) : F.zba n m = some true:=by
  unfold F.zba
  have hc : F.zo n (m.1,m.2.1,m.2.2.1,m.2.2.2.1,m.2.2.2.2.1,m.2.2.2.2.2.1,()) = some (chkM m):=zb8 n hn m h.right.ok
  rw [hc,za,h.right.chk,beq_self_eq_true,cond_true,zvw n hn _ (by have:=h.tg.2.1; omega) h.tg.2.2]
  rfl
end Go.AM
set_option linter.unusedVariables false
set_option linter.unusedSimpArgs false
namespace Go.AM
def sdM (s : List UInt8) : MetR:=(sdParse s).getD (badM 11 0)
theorem zdz (s : List UInt8) : sdParse s = some (sdM s):=by
  unfold sdM
  rcases zg1 s with ⟨c,a,h,_⟩ | ⟨_,_,_,_,_,_,_,_,_,_,_,_,_,h⟩ <;> rw [h] <;> rfl
def fmtB (f : Int) : Bool:=decide (1 ≤ f) && decide (f ≤ 3)
def parseT (s : List UInt8) (f : Int) : MetR:=
  if fmtB f = false then badM 29 0 else if 8192 < s.length then badM 12 0 else if f = 1 then sdM s else if f = 2 then parseD s else grParse s
theorem z8 {f : Int} (h : fmtB f = true) : f = 1 ∨ f = 2 ∨ f = 3:=by
  unfold fmtB at h
  simp only [Bool.and_eq_true,decide_eq_true_eq] at h
  omega
theorem zmq (n : Nat) (hn : 200000 ≤ n) (s : List UInt8) (hs : s.length ≤ 1000000000) (f : Int) : F.zbg n s f = some (parseT s f):=by
  unfold F.zbg parseT
  have hd : decide ((s.length : Int) > 8192) = decide (8192 < s.length):=decide_eq_decide.2 (by omega)
  rw [hd]
  cases hf : fmtB f
  · have h1 : f ≠ 1:=fun e => by rw [e] at hf; cases hf
    have h2 : f ≠ 2:=fun e => by rw [e] at hf; cases hf
    have h3 : f ≠ 3:=fun e => by rw [e] at hf; cases hf
    rw [beq_eq_false_iff_ne.2 h1,beq_eq_false_iff_ne.2 h2,beq_eq_false_iff_ne.2 h3,if_pos rfl]
    rfl
  · rw [if_neg (by simp)]
    by_cases hl : 8192 < s.length
    · rw [decide_eq_true hl,if_pos hl]
      rcases z8 hf with rfl | rfl | rfl <;> rfl
    · rw [decide_eq_false hl,if_neg hl]
      rcases z8 hf with rfl | rfl | rfl
      · rw [beq_self_eq_true,cond_true,cond_false,zpn n hn s (by omega),zdz,if_pos rfl]
        rfl
      · rw [show ((2 : Int) == 1) = false from rfl,cond_false,beq_self_eq_true,cond_true,cond_false,zvr n hn s (by omega),if_neg (by decide),if_pos rfl]
        rfl
      · rw [show ((3 : Int) == 1) = false from rfl,show ((3 : Int) == 2) = false from rfl,cond_false,cond_false,beq_self_eq_true,cond_true,cond_false,zpp n hn s (by omega),if_neg (by decide),if_neg (by decide)]
        rfl
theorem zfp (s : List UInt8) (f : Int) : ((parseT s f).2.1 = (0,0,()) ∧ (parseT s f).1.2.2.1.length ≤ 64 ∧ (parseT s f).1.2.2.2.2.1.length ≤ 32) ∨ (∃ c a,c ≠ 0 ∧ 0 ≤ a ∧ a ≤ (s.length : Int) ∧ parseT s f = badM c a):=by
  unfold parseT
  split
  · exact Or.inr ⟨29,0,by decide,by omega,by omega,rfl⟩
  · split
    · exact Or.inr ⟨12,0,by decide,by omega,by omega,rfl⟩
    · split
      · rcases zg1 s with ⟨c,a,h,h1,h2,h3⟩ | ⟨_,_,_,_,_,_,_,_,_,_,_,_,_,h⟩
        · rw [zdz] at h
          exact Or.inr ⟨c,a,h1,h2,h3,Option.some.inj h⟩
        · rw [zdz] at h
          rw [Option.some.inj h]
          exact Or.inl ⟨rfl,(show (1 : Nat) ≤ 64 by omega),(show (0 : Nat) ≤ 32 by omega)⟩
      · split
        · rcases zfo s with ⟨h,hI⟩ | ⟨e,a,h1,h2,h3,h⟩
          · exact Or.inl ⟨h,hI.vs.2.2,hI.tg.2.1⟩
          · exact Or.inr ⟨e,a,h1,h2,h3,h⟩
        · rcases zmc s with ⟨c,a,h,h1,h2,h3⟩ | ⟨_,_,_,_,_,_,_,_,_,_,_,h⟩
          · exact Or.inr ⟨c,a,h1,h2,h3,h⟩
          · rw [h]
            exact Or.inl ⟨rfl,(show (1 : Nat) ≤ 64 by omega),(show (0 : Nat) ≤ 32 by omega)⟩
end Go.AM
set_option linter.unusedVariables false
set_option linter.unusedSimpArgs false
namespace Go.AM
abbrev MetL:=List UInt8 × Int × List DecL × Int × List TagL × Int
def toL (m : MetD) : MetL:=(m.1,m.2.1,m.2.2.1,m.2.2.2.1,m.2.2.2.2.1,m.2.2.2.2.2.1)
theorem growM {X : Type} {v : List MetL} (h : v.length ≤ 100000) (y : Option X) : (bif decide ((v.length + 1) * 88 ≤ 2 ^ 46) && decide (0 < 88 ∧ 88 ≤ 2 ^ 20) then y else none) = y:=by
  rw [decide_eq_true (by omega)]; rfl
def opM (m : MetL) : MetD:=(m.1,m.2.1,m.2.2.1,m.2.2.2.1,m.2.2.2.2.1,m.2.2.2.2.2,())
abbrev BatR:=List MetL × Int × Int × Unit
def BatOK (l : List MetL) : Prop:=∀ m ∈ l,MetOK (opM m)
def nbF : List MetL→List MetL→BatR
  | [],out => (out,0,0,())
  | m :: r,out => if (normM (opM m)).2.1 = 0 then nbF r (out ++ [toL (normM (opM m)).1]) else ([],out.length,(normM (opM m)).2.1,())
def normB (l : List MetL) : BatR:=if 1000 < l.length then ([],1000,12,()) else nbF l []
theorem zyi (n : Nat) (hn : 200000 ≤ n) (k0 kr k1 : List MetL→Int→Int→List MetL→List MetL→Nat→Nat→Option BatR) (h0 : ∀ a b c out d e f,k0 a b c out d e f = some (out,0,0,())) (hr : ∀ a i e out d k f,kr a i e out d k f = some (a,i,e,())) (l : List MetL) (hl : l.length ≤ 1000) (hok : BatOK l) (b4 : List MetL) :
    ∀ (r : List MetL) (i m : Nat) (out b0 : List MetL) (b1 b2 : Int) (k : Nat),l.drop i = r→out.length = i→r.length < m →
    F.zt.L1_batch_all_api_Metric_1 n k0 kr k1 m l (l.length : Int) (i : Int) b0 b1 b2 out b4 k out.length = some (nbF r out):=by
  intro r
  induction r with
  | nil =>
    intro i m out b0 b1 b2 k hi ho hm
    have:=zm hi
    obtain ⟨m,rfl⟩ : ∃ q,m = q + 1:=⟨m - 1,by omega⟩
    rw [F.zt.L1_batch_all_api_Metric_1]
    unfold F.zt.L1_batch_all_api_Metric_1.step
    dsimp only
    rw [zg (by omega),h0]
    rfl
  | cons x r ih =>
    intro i m out b0 b1 b2 k hi ho hm
    obtain ⟨g1,g2,g3⟩:=zk hi
    obtain ⟨m,rfl⟩ : ∃ q,m = q + 1:=⟨m - 1,by omega⟩
    have hN : F.zh n (x.1,x.2.1,x.2.2.1,x.2.2.2.1,x.2.2.2.2.1,x.2.2.2.2.2,()) = some (normM (opM x)):=zc2 n hn (opM x) (hok x (List.mem_of_getElem? g2))
    rw [F.zt.L1_batch_all_api_Metric_1]
    unfold F.zt.L1_batch_all_api_Metric_1.step
    dsimp only
    rw [zd (by omega),zr,g2,za,hN,za,nbF]
    by_cases h : (normM (opM x)).2.1 = 0
    · rw [if_pos h,h,beq_self_eq_true,Bool.not_true,cond_false,growM (by omega),Nat.beq_refl,cond_true,cond_false,zh (by omega)]
      exact ih (i + 1) m _ b0 b1 b2 k g3 (by simp [ho]) (by simp at hm; omega)
    · rw [if_neg h,beq_eq_false_iff_ne.2 h,Bool.not_false,cond_true,hr]
theorem zfq (n : Nat) (hn : 200000 ≤ n) (l : List MetL) (hok : BatOK l) : F.zt n l = some (normB l):=by
  unfold F.zt normB
  by_cases h : 1000 < l.length
  · rw [zd (by omega),if_pos h]
  · rw [zg (by omega),if_neg h]
    exact zyi n hn _ _ _ (fun _ _ _ _ _ _ _ => rfl) (fun _ _ _ _ _ _ _ => rfl) l (by omega) hok l l 0 n [] [] 0 0 0 rfl rfl (by omega)
def RightB (l : List MetL) : Prop:=l.length ≤ 1000 ∧ ∀ m ∈ l,RightM (opM m) ∧ StrictT m.2.2.2.2.1
theorem zj5 : ∀ (l out : List MetL),BatOK l→(∀ m ∈ out,RightM (opM m) ∧ StrictT m.2.2.2.2.1) →
    ((nbF l out).2 = (0,0,()) ∧ (nbF l out).1.length = out.length + l.length ∧ (∀ m ∈ (nbF l out).1,RightM (opM m) ∧ StrictT m.2.2.2.2.1) ∧ (nbF l out).1 = out ++ l.map fun m => toL (formM (opM m))) ∨
    (∃ i e : Int,e ≠ 0 ∧ nbF l out = ([],i,e,()) ∧ 0 ≤ i ∧ i < out.length + l.length)
  | [],out,_,ho => Or.inl ⟨rfl,by simp [nbF],ho,by simp [nbF]⟩
  | x :: l,out,hok,ho => by
    have hx:=hok x (by simp)
    rw [nbF]
    rcases zds hx with ⟨h,hR⟩ | ⟨e,he,h⟩
    · rw [h,if_pos rfl]
      rcases zj5 l (out ++ [toL (formM (opM x))]) (fun m hm => hok m (by simp [hm])) (fun m hm => by
        rcases List.mem_append.1 hm with hm | hm
        · exact ho m hm
        · rw [List.mem_singleton.1 hm]; exact ⟨hR,zbg _⟩) with ⟨a,b,c,d⟩ | ⟨i,e,a,b,c,d⟩
      · exact Or.inl ⟨a,by rw [b]; simp; omega,c,by rw [d]; simp⟩
      · exact Or.inr ⟨i,e,a,b,c,by simp at d ⊢; omega⟩
    · rw [h,if_neg (show ¬ e = 0 from he)]
      exact Or.inr ⟨out.length,e,he,rfl,by omega,by simp; omega⟩
theorem zgo {l : List MetL} (h : BatOK l) : ((normB l).2 = (0,0,()) ∧ RightB (normB l).1 ∧ (normB l).1 = (l.map fun m => toL (formM (opM m))) ∧ l.length ≤ 1000) ∨ (∃ i e : Int,e ≠ 0 ∧ normB l = ([],i,e,())):=by
  unfold normB
  split
  · exact Or.inr ⟨1000,12,by decide,rfl⟩
  · rcases zj5 l [] h (fun m hm => by cases hm) with ⟨a,b,c,d⟩ | ⟨i,e,a,b,_⟩
    · exact Or.inl ⟨a,⟨by rw [b]; simp; omega,c⟩,by rw [d]; rfl,by omega⟩
    · exact Or.inr ⟨i,e,a,b⟩
theorem RightB.ok {l : List MetL} (h : RightB l) : BatOK l:=fun m hm => (h.2 m hm).1.ok
theorem zj6 : ∀ (l out : List MetL),(∀ m ∈ l,RightM (opM m) ∧ StrictT m.2.2.2.2.1)→nbF l out = (out ++ l,0,0,())
  | [],out,_ => by simp [nbF]
  | x :: l,out,h => by
    obtain ⟨h1,h2⟩:=h x (by simp)
    have : normM (opM x) = (opM x,0,()):=zg7 h1 h2
    rw [nbF,this,if_pos rfl,zj6 l _ (fun m hm => h m (by simp [hm])),List.append_assoc]
    rfl
theorem znt {l : List MetL} (h : RightB l) : normB l = (l,0,0,()):=by
  unfold normB
  rw [if_neg (by have:=h.1; omega),zj6 l [] h.2]
  rfl
abbrev AtR:=Int × Int × Unit
def chF : List MetL→Nat→AtR
  | [],_ => (0,0,())
  | m :: r,i => if chkM (opM m) = 0 then chF r (i + 1) else ((i : Int),chkM (opM m),())
def sayF (f : Int) : List MetL→Nat→AtR
  | [],_ => (0,0,())
  | m :: r,i => bif saysM (opM m) f then sayF f r (i + 1) else ((i : Int),26,())
def checkB (l : List MetL) : AtR:=if 1000 < l.length then (1000,12,()) else chF l 0
def expB (l : List MetL) (f : Int) : AtR:=if f < 1 ∨ f > 4 then (0,29,()) else if (checkB l).2.1 = 0 then sayF f l 0 else checkB l
theorem growO {X : Type} {v : List Bool} (h : v.length ≤ 100000) (y : Option X) : (bif decide ((v.length + 1) * 1 ≤ 2 ^ 46) && decide (0 < 1 ∧ 1 ≤ 2 ^ 20) then y else none) = y:=by
  rw [decide_eq_true (by omega)]; rfl
theorem zvx (n : Nat) (hn : 200000 ≤ n) (k0 kr k1 : List Bool→Int→Int→List Bool→List MetL→Nat→Nat→Option AtR) (h0 : ∀ a b c out d e f,k0 a b c out d e f = some (0,0,())) (hr : ∀ a i e out d k f,kr a i e out d k f = some (i,e,())) (l : List MetL) (hl : l.length ≤ 1000) (hok : BatOK l) (b4 : List MetL) :
    ∀ (r : List MetL) (i m : Nat) (out b0 : List Bool) (b1 b2 : Int) (k : Nat),l.drop i = r→out.length = i→r.length < m →
    F.zw.L1_batch_all_bool_1 n k0 kr k1 m l (l.length : Int) (i : Int) b0 b1 b2 out b4 k out.length = some (chF r i):=by
  intro r
  induction r with
  | nil =>
    intro i m out b0 b1 b2 k hi ho hm
    have:=zm hi
    obtain ⟨m,rfl⟩ : ∃ q,m = q + 1:=⟨m - 1,by omega⟩
    rw [F.zw.L1_batch_all_bool_1]
    unfold F.zw.L1_batch_all_bool_1.step
    dsimp only
    rw [zg (by omega),h0]
    rfl
  | cons x r ih =>
    intro i m out b0 b1 b2 k hi ho hm
    obtain ⟨g1,g2,g3⟩:=zk hi
    obtain ⟨m,rfl⟩ : ∃ q,m = q + 1:=⟨m - 1,by omega⟩
    have hN : F.zbc n (x.1,x.2.1,x.2.2.1,x.2.2.2.1,x.2.2.2.2.1,x.2.2.2.2.2,()) = some (true,chkM (opM x),()):=by
      unfold F.zbc
      have:=zb8 n hn (opM x) (hok x (List.mem_of_getElem? g2))
      unfold opM at this
      rw [this]
      rfl
    rw [F.zw.L1_batch_all_bool_1]
    unfold F.zw.L1_batch_all_bool_1.step
    dsimp only
    rw [zd (by omega),zr,g2,za,hN,za,chF]
    by_cases h : chkM (opM x) = 0
    · rw [if_pos h,h,beq_self_eq_true,Bool.not_true,cond_false,growO (by omega),Nat.beq_refl,cond_true,cond_false,zh (by omega)]
      exact ih (i + 1) m _ b0 b1 b2 k g3 (by simp [ho]) (by simp at hm; omega)
    · rw [if_neg h,beq_eq_false_iff_ne.2 h,Bool.not_false,cond_true,hr,ho]
theorem znu (n : Nat) (hn : 200000 ≤ n) (l : List MetL) (hok : BatOK l) : F.zw n l = some (checkB l):=by
  unfold F.zw checkB
  by_cases h : 1000 < l.length
  · rw [zd (by omega),if_pos h]
  · rw [zg (by omega),if_neg h]
    exact zvx n hn _ _ _ (fun _ _ _ _ _ _ _ => rfl) (fun _ _ _ _ _ _ _ => rfl) l (by omega) hok l l 0 n [] [] 0 0 0 rfl rfl (by omega)
theorem zen (g : MetL→Option Bool) (f : Int) (hg : ∀ x,g x = some (saysM (opM x) f)) (k0 : Unit→Option AtR) (kr : Int→Int→Option AtR) (h0 : k0 () = some (0,0,())) (hr : ∀ a b,kr a b = some (a,b,())) (l : List MetL) (hl : l.length ≤ 1000) (L : Nat→Int→Option AtR)
    (hL : ∀ m i,L (m + 1) i = bif decide (i < (l.length : Int)) then (idx l i).bind fun x => (g x).bind fun y => bif !y then kr i 26 else L m (IntKind.wrap .i64 (i + 1)) else k0 ()) :
    ∀ (r : List MetL) (i m : Nat),l.drop i = r→r.length < m→L m (i : Int) = some (sayF f r i):=by
  intro r
  induction r with
  | nil =>
    intro i m hi hm
    have:=zm hi
    obtain ⟨m,rfl⟩ : ∃ q,m = q + 1:=⟨m - 1,by omega⟩
    rw [hL,zg (by omega),h0]
    rfl
  | cons x r ih =>
    intro i m hi hm
    obtain ⟨g1,g2,g3⟩:=zk hi
    obtain ⟨m,rfl⟩ : ∃ q,m = q + 1:=⟨m - 1,by omega⟩
    rw [hL,zd (by omega),zr,g2,za,hg,za,sayF]
    cases saysM (opM x) f
    · rw [Bool.not_false,cond_true,cond_false,hr]
    · rw [Bool.not_true,cond_false,cond_true,zh (by omega)]
      exact ih (i + 1) m g3 (by simp at hm; omega)
theorem zou (n : Nat) (hn : 200000 ≤ n) (l : List MetL) (hok : BatOK l) (f : Int) : F.zk n l f = some (expB l f):=by
  have hl : ∀ {p : AtR},checkB l = p→p.2.1 = 0→l.length ≤ 1000:=fun e h0 => by
    unfold checkB at e
    split at e
    · rw [← e] at h0; cases h0
    · omega
  unfold F.zk expB
  rw [znu n hn l hok]
  have hs:=fun x : MetL => zry n (opM x)
  have hg:=fun x : MetL => zrz n (opM x)
  by_cases h : f < 1 ∨ f > 4
  · rw [if_pos h,beq_eq_false_iff_ne.2 (by omega : f ≠ 1),beq_eq_false_iff_ne.2 (by omega : f ≠ 2),beq_eq_false_iff_ne.2 (by omega : f ≠ 3),beq_eq_false_iff_ne.2 (by omega : f ≠ 4)]
    rfl
  rw [if_neg h]
  simp only [za]
  generalize hc : checkB l = p
  by_cases h0 : p.2.1 = 0
  · have hl:=hl hc h0
    rw [if_pos h0,h0,beq_self_eq_true,Bool.not_true,cond_false,cond_false]
    rcases (by omega : f = 1 ∨ f = 2 ∨ f = 3 ∨ f = 4) with rfl | rfl | rfl | rfl
    · exact zen (fun x => F.zak n (x.1,x.2.1,x.2.2.1,x.2.2.2.1,x.2.2.2.2.1,x.2.2.2.2.2,())) 1 hs (fun _ => some (0,0,())) (fun a b => some (a,b,())) rfl (fun _ _ => rfl) l hl (fun m i => F.zk.L8 n _ _ m l (l.length : Int) i) (fun _ _ => rfl) l 0 n rfl (by omega)
    · exact zen (fun x => F.za1 n (x.1,x.2.1,x.2.2.1,x.2.2.2.1,x.2.2.2.2.1,x.2.2.2.2.2,())) 2 (fun _ => rfl) (fun _ => some (0,0,())) (fun a b => some (a,b,())) rfl (fun _ _ => rfl) l hl (fun m i => F.zk.L8_1 n _ _ m l (l.length : Int) i) (fun _ _ => rfl) l 0 n rfl (by omega)
    · exact zen (fun x => F.zaf n (x.1,x.2.1,x.2.2.1,x.2.2.2.1,x.2.2.2.2.1,x.2.2.2.2.2,())) 3 hg (fun _ => some (0,0,())) (fun a b => some (a,b,())) rfl (fun _ _ => rfl) l hl (fun m i => F.zk.L8_2 n _ _ m l (l.length : Int) i) (fun _ _ => rfl) l 0 n rfl (by omega)
    · exact zen (fun x => F.za1 n (x.1,x.2.1,x.2.2.1,x.2.2.2.1,x.2.2.2.2.1,x.2.2.2.2.2,())) 4 (fun _ => rfl) (fun _ => some (0,0,())) (fun a b => some (a,b,())) rfl (fun _ _ => rfl) l hl (fun m i => F.zk.L8_1 n _ _ m l (l.length : Int) i) (fun _ _ => rfl) l 0 n rfl (by omega)
  · obtain ⟨a,b,_⟩:=p
    rw [if_neg h0,beq_eq_false_iff_ne.2 h0]
    rcases (by omega : f = 1 ∨ f = 2 ∨ f = 3 ∨ f = 4) with rfl | rfl | rfl | rfl <;> rfl
theorem zj7 : ∀ (l : List MetL) (i : Nat),(∀ m ∈ l,RightM (opM m))→chF l i = (0,0,())
  | [],_,_ => rfl
  | x :: l,i,h => by rw [chF,if_pos (h x (by simp)).chk,zj7 l _ fun m hm => h m (by simp [hm])]
theorem zfr {l : List MetL} (h : RightB l) : checkB l = (0,0,()):=by
  unfold checkB
  rw [if_neg (by have:=h.1; omega),zj7 l 0 fun m hm => (h.2 m hm).1]
theorem zj8 : ∀ (l : List MetL) (f : Int) (i : Nat),(sayF f l i).2.1 = 0→sayF f l i = (0,0,()) ∧ ∀ m ∈ l,saysM (opM m) f = true
  | [],f,i,_ => ⟨rfl,fun m hm => by cases hm⟩
  | x :: l,f,i,h => by
    rw [sayF] at h ⊢
    cases hx : saysM (opM x) f
    · rw [hx] at h; cases h
    · rw [hx] at h
      obtain ⟨a,b⟩:=zj8 l f (i + 1) h
      exact ⟨a,fun m hm => by
        rcases List.mem_cons.1 hm with rfl | hm
        · exact hx
        · exact b m hm⟩
theorem zmr : ∀ (l : List MetL) (f : Int) (i : Nat),(∀ m ∈ l,saysM (opM m) f = true)→sayF f l i = (0,0,())
  | [],f,i,_ => rfl
  | x :: l,f,i,h => by rw [sayF,h x (by simp),cond_true,zmr l f _ fun m hm => h m (by simp [hm])]
theorem zj9 {l : List MetL} {f : Int} (h : RightB l) (h0 : (expB l f).2.1 = 0) : expB l f = (0,0,()) ∧ ∀ m ∈ l,expM (opM m) f = 0:=by
  unfold expB at h0 ⊢
  rw [zfr h] at h0 ⊢
  split at h0
  · cases h0
  · rename_i hf
    rw [if_pos rfl] at h0
    rw [if_neg hf,if_pos rfl]
    obtain ⟨a,b⟩:=zj8 l f 0 h0
    refine ⟨a,fun m hm => ?_⟩
    unfold expM
    rw [if_neg hf,if_pos (h.2 m hm).1.chk,b m hm]
    rfl
end Go.AM
set_option linter.unusedVariables false
set_option linter.unusedSimpArgs false
namespace Go.AM
abbrev DecT:=List MetL × (Int × Int × Unit) × Unit
def decF (f : Int) : List (List UInt8)→List MetL→Int→Except (Int × Int) (List MetL)
  | [],out,_ => .ok out
  | [t],out,at_ => if t = [] then .ok out else if out.length = 1000 then .error (12,at_) else .error (30,at_)
  | p :: q :: r,out,at_ => if out.length = 1000 then .error (12,at_) else if (parseT p f).2.1.1 ≠ 0 then .error ((parseT p f).2.1.1,at_ + (parseT p f).2.1.2.1)
      else decF f (q :: r) (out ++ [toL (parseT p f).1]) (at_ + p.length + 1)
def outT : Except (Int × Int) (List MetL)→DecT
  | .ok l => (l,(0,0,()),())
  | .error e => ([],(e.1,e.2,()),())
def decodeT (b : List UInt8) (f : Int) : DecT:=if fmtB f = false then ([],(29,0,()),()) else outT (decF f (splitL 10 b) [] 0)
theorem zsu (s : List UInt8) (f : Int) : (((parseT s f).2.1.1 == 0) && ((parseT s f).2.1.2.1 == 0)) = decide ((parseT s f).2.1.1 = 0):=by
  rcases zfp s f with ⟨h,_⟩ | ⟨c,a,h1,_,_,h⟩
  · rw [h]; rfl
  · rw [h]
    have e : (badM c a).2.1.1 = c:=rfl
    rw [e,decide_eq_false h1,beq_eq_false_iff_ne.2 h1]; rfl
theorem zms (s : List UInt8) (f : Int) : 0 ≤ (parseT s f).2.1.2.1 ∧ (parseT s f).2.1.2.1 ≤ s.length:=by
  rcases zfp s f with ⟨h,_⟩ | ⟨c,a,h1,h2,h3,h⟩
  · rw [h]; exact ⟨by simp,by simp⟩
  · rw [h]; exact ⟨h2,h3⟩
theorem zp5 (n : Nat) {a : List UInt8} (ha : a.length ≤ 1000000000) : F.zah n (a ++ [10]) [10] = some (a,true,()):=by
  unfold F.zah F.zaq F.zap
  have hw : IntKind.wrap .i64 (((a ++ [(10 : UInt8)]).length : Int) - (([(10 : UInt8)] : List UInt8).length : Int)) = (a.length : Int):=by
    rw [zi (by simp; omega)]; simp
  rw [zd (by simp; omega),hw,zz _ a.length _ (by simp) (by omega),List.take_length,List.drop_left,za,za,beq_self_eq_true,Bool.not_true,cond_false,
    show (0 : Int) = ((0 : Nat) : Int) from rfl,zz _ 0 a.length (by omega) (by simp),List.take_left]
  rfl
theorem znv (n : Nat) {a : List UInt8} (ha : a.length ≤ 1000000000) (hne : a ≠ []) (h : (10 : UInt8) ∉ a) : F.zah n a [10] = some (a,false,()):=by
  unfold F.zah F.zaq F.zap
  have hp:=List.length_pos_iff.2 hne
  have hw : IntKind.wrap .i64 ((a.length : Int) - (([(10 : UInt8)] : List UInt8).length : Int)) = ((a.length - 1 : Nat) : Int):=by
    rw [zi (by simp; omega)]; simp; omega
  rw [zd (by simp; omega),hw,zz _ (a.length - 1) _ (by omega) (by omega),List.take_length,za]
  have hd : (a.drop (a.length - 1) == [10]) = false:=by
    rw [beq_eq_false_iff_ne]
    intro e
    exact h (List.mem_of_mem_drop (by rw [e]; simp))
  rw [hd]
  rfl
abbrev KD:=Int→List MetL→Int→Int→List MetL→Int→List UInt8→Nat→Nat→Option DecT
theorem zvy (n : Nat) (hn : 200000 ≤ n) (f : Int) (k0 kr : KD) (h0 : ∀ out a r k,k0 f [] 0 0 out a r 0 k = some (out,(0,0,()),())) (hr : ∀ c a out a' r k,kr f [] c a out a' r 0 k = some ([],(c,a,()),())) :
    ∀ (m : Nat) (b : List UInt8) (out : List MetL) (a : Int),b.length < m→0 ≤ a→a + b.length ≤ 100000000→out.length ≤ 1000 →
    F.zm.L0_strings_Lines_1 n k0 kr m f [] 0 0 out a b 0 out.length = some (outT (decF f (splitL 10 b) out a)):=by
  intro m
  induction m with
  | zero => intro b out a h; omega
  | succ m ih =>
    intro b out a hm ha hb ho
    rw [F.zm.L0_strings_Lines_1]
    unfold F.zm.L0_strings_Lines_1.step
    dsimp only
    by_cases hne : b = []
    · subst hne
      rw [zg (by simp),h0]
      rfl
    have hp:=List.length_pos_iff.2 hne
    have hi : F.za7 n b 10 = some (Lib.indexByte b 10):=rfl
    have hk : ((out.length : Int) == 1000) = decide (out.length = 1000):=by
      by_cases h : out.length = 1000
      · rw [h]; rfl
      · rw [decide_eq_false h,beq_eq_false_iff_ne]; omega
    have hw0 : IntKind.wrap .i64 (a + 0) = a:=by rw [Int.add_zero,zi (by omega)]
    rw [zd (by omega),hi,za,zom,zej]
    by_cases hin : (10 : UInt8) ∈ b
    · have hlt:=za6 hin
      have hw1 : IntKind.wrap .i64 (((seg 10 b).length : Int) + 1) = (((seg 10 b).length + 1 : Nat) : Int):=zh (by omega)
      have hsp:=zbu hin
      have h10 : b[(seg 10 b).length]? = some 10:=by
        have:=congrArg (fun l => l[(seg 10 b).length]?) hsp
        simpa using this
      have hx2 : sub b 0 (((seg 10 b).length + 1 : Nat) : Int) = some (seg 10 b ++ [10]):=by
        rw [show (0 : Int) = ((0 : Nat) : Int) from rfl,zz b 0 _ (by omega) (by omega),List.drop_zero,List.take_add_one,zl1,h10]
        rfl
      have hrn : restN 10 b = b.drop ((seg 10 b).length + 1):=by unfold restN; rw [if_pos hin]
      have hrl : (restN 10 b).length + ((seg 10 b).length + 1) = b.length:=by rw [hrn,List.length_drop]; omega
      rw [if_pos hin,if_pos hin,zd (by omega),hw1,hx2,za,zz b _ b.length (by omega) (by omega),List.take_length,← hrn,za,zp5 n (by omega),za,hk]
      have hsne:=zbs 10 (restN 10 b)
      obtain ⟨q,r,hqr⟩ : ∃ q r,splitL 10 (restN 10 b) = q :: r:=by
        cases hq : splitL 10 (restN 10 b) with
        | nil => exact absurd hq hsne
        | cons q r => exact ⟨q,r,rfl⟩
      rw [hqr,decF]
      have hwl : IntKind.wrap .i64 (a + (((seg 10 b) ++ [10]).length : Int)) = a + (seg 10 b).length + 1:=by
        rw [zi (by simp; omega)]; simp; omega
      by_cases h1000 : out.length = 1000
      · rw [decide_eq_true h1000,cond_true,if_pos h1000]
        rw [Bool.false_and,Bool.not_false,cond_true,hw0,hr]
        rfl
      · rw [decide_eq_false h1000,cond_false,if_neg h1000]
        have hpa:=zms (seg 10 b) f
        dsimp only
        rw [Bool.not_true,cond_false,zmq n hn _ (by omega),za,zsu]
        by_cases hc : (parseT (seg 10 b) f).2.1.1 = 0
        · rw [decide_eq_true hc,Bool.not_true,cond_false,growM (by omega),Nat.beq_refl,cond_true,hwl,if_neg (fun h => h hc)]
          have:=ih (restN 10 b) (out ++ [toL (parseT (seg 10 b) f).1]) (a + (seg 10 b).length + 1) (by omega) (by omega) (by omega) (by simp; omega)
          rw [hqr] at this
          exact this
        · rw [decide_eq_false hc,Bool.not_false,cond_true,if_pos hc,zi (x:=a + (parseT (seg 10 b) f).2.1.2.1) (by omega)]
          exact hr _ _ _ _ _ _
    · rw [if_neg hin,if_neg hin,zg (by omega),znv n (by omega) hne hin,za,hk,decF,if_neg hne]
      by_cases h1000 : out.length = 1000
      · rw [decide_eq_true h1000,cond_true,if_pos h1000]
        rw [Bool.false_and,Bool.not_false,cond_true,hw0,hr]
        rfl
      · rw [decide_eq_false h1000,cond_false,if_neg h1000]
        dsimp only
        rw [Bool.not_false,cond_true,Bool.false_and,Bool.not_false,cond_true,hw0,hr]
        rfl
theorem zh8 (n : Nat) (hn : 200000 ≤ n) (b : List UInt8) (hb : b.length ≤ 100000000) (hbn : b.length < n) (f : Int) : F.zm n b f = some (decodeT b f):=by
  unfold F.zm decodeT
  cases hf : fmtB f
  · have h1 : f ≠ 1:=fun e => by rw [e] at hf; cases hf
    have h2 : f ≠ 2:=fun e => by rw [e] at hf; cases hf
    have h3 : f ≠ 3:=fun e => by rw [e] at hf; cases hf
    rw [beq_eq_false_iff_ne.2 h1,beq_eq_false_iff_ne.2 h2,beq_eq_false_iff_ne.2 h3,if_pos rfl]
    rfl
  · rw [if_neg (by simp)]
    have L:=zvy n hn f (fun e8_b0_0 e8_b1_0 e8_b2_0 e8_b2_1 e8_b5_0 e8_b6_0 e8_b7_0 e8_k0 e8_k1 => some ((e8_b5_0,((0 : Int),(0 : Int),()),()))) (fun e9_b0_0 e9_b1_0 e9_b2_0 e9_b2_1 e9_b5_0 e9_b6_0 e9_b7_0 e9_k0 e9_k1 => some ((e9_b1_0,(e9_b2_0,e9_b2_1,()),()))) (fun _ _ _ _ => rfl) (fun _ _ _ _ _ _ => rfl) n b [] 0 (by omega) (by omega) (by omega) (by simp)
    rcases z8 hf with rfl | rfl | rfl
    · exact L
    · exact L
    · exact L
theorem zsv (n : Nat) (hn : 200000 ≤ n) (b : List UInt8) (hb : b.length ≤ 20000) (f : Int) : F.zm n b f = some (decodeT b f):=zh8 n hn b (by omega) (by omega) f
end Go.AM
set_option linter.unusedVariables false
set_option linter.unusedSimpArgs false
namespace Go.AM
end Go.AM
set_option linter.unusedVariables false
set_option linter.unusedSimpArgs false
namespace Go.AM
def lineF (m : MetD) (f : Int) : List UInt8:=if f = 1 then lineS m else if f = 2 then lineD m else lineG m
def lineT (m : MetD) (f : Int) : List UInt8 × Int × Unit:=
  if fmtB f = false then ([],29,())
  else if (normM m).2.1 ≠ 0 then ([],(normM m).2.1,())
  else if expM (normM m).1 f ≠ 0 then ([],expM (normM m).1 f,())
  else (lineF (normM m).1 f,0,())
theorem zvz (n : Nat) (hn : 200000 ≤ n) {m : MetD} (hR : RightM m) (hs : StrictT m.2.2.2.2.1) {f : Int} (h0 : expM m f = 0) :
    (f = 1→F.zbd n m = some (lineF m f,0,())) ∧ (f = 2→F.zg n m = some (lineF m f,0,())) ∧ (f = 3→F.za4 n m = some (lineF m f,0,())):=by
  refine ⟨fun e => ?_,fun e => ?_,fun e => ?_⟩
  · subst e; rw [zr6 n hn m hR.ok]; unfold sdLineR; rw [if_pos h0]; rfl
  · subst e; rw [zpy n hn hR hs]; rfl
  · subst e; rw [zvg n hn m hR.ok]; unfold lineGR; rw [if_pos h0]; rfl
theorem znw (n : Nat) (hn : 200000 ≤ n) (m : MetD) (hm : MetOK m) (f : Int) : F.zbj n m f = some (lineT m f):=by
  unfold F.zbj lineT
  have hN : F.zh n (m.1,m.2.1,m.2.2.1,m.2.2.2.1,m.2.2.2.2.1,m.2.2.2.2.2.1,()) = some (normM m):=zc2 n hn m hm
  rw [hN]
  cases hf : fmtB f
  · have h1 : f ≠ 1:=fun e => by rw [e] at hf; cases hf
    have h2 : f ≠ 2:=fun e => by rw [e] at hf; cases hf
    have h3 : f ≠ 3:=fun e => by rw [e] at hf; cases hf
    rw [beq_eq_false_iff_ne.2 h1,beq_eq_false_iff_ne.2 h2,beq_eq_false_iff_ne.2 h3,if_pos rfl]
    rfl
  · rw [if_neg (by simp)]
    rcases zds hm with ⟨hq,hR⟩ | ⟨e,he,hq⟩
    · have hs : StrictT (formM m).2.2.2.2.1:=zbg _
      rw [hq]
      generalize formM m = q at hR hs ⊢
      have hE : F.zal n (q.1,q.2.1,q.2.2.1,q.2.2.2.1,q.2.2.2.2.1,q.2.2.2.2.2.1,()) f = some (expM q f):=zir n hn q hR.ok f
      dsimp only
      simp only [za,beq_self_eq_true,Bool.not_true,cond_false,hE,ne_eq,not_true_eq_false,if_false]
      by_cases h0 : expM q f = 0
      · obtain ⟨l1,l2,l3⟩:=zvz n hn hR hs h0
        rw [if_neg (by simp [h0]),h0]
        rcases z8 hf with rfl | rfl | rfl
        · have:=l1 rfl
          rw [beq_self_eq_true,cond_true,beq_self_eq_true,Bool.not_true,cond_false]
          exact (congrArg (Option.bind · _) this).trans rfl
        · have:=l2 rfl
          rw [show ((2 : Int) == 1) = false from rfl,cond_false,beq_self_eq_true,cond_true,beq_self_eq_true,Bool.not_true,cond_false]
          exact (congrArg (Option.bind · _) this).trans rfl
        · have:=l3 rfl
          rw [show ((3 : Int) == 1) = false from rfl,show ((3 : Int) == 2) = false from rfl,cond_false,cond_false,beq_self_eq_true,cond_true,beq_self_eq_true,Bool.not_true,cond_false]
          exact (congrArg (Option.bind · _) this).trans rfl
      · rw [if_pos h0,beq_eq_false_iff_ne.2 h0]
        rcases z8 hf with rfl | rfl | rfl <;> rfl
    · rw [hq]
      dsimp only
      rw [if_pos he]
      simp only [za,beq_eq_false_iff_ne.2 he]
      rcases z8 hf with rfl | rfl | rfl <;> rfl
end Go.AM
set_option linter.unusedVariables false
set_option linter.unusedSimpArgs false
namespace Go.AM
theorem znx {m : MetD} (hR : RightM m) (hs : StrictT m.2.2.2.2.1) {f : Int} (hf : fmtB f = true) (h0 : expM m f = 0) : lineT m f = (lineF m f,0,()):=by
  unfold lineT
  rw [if_neg (by simp [hf]),zg7 hR hs,if_neg (by simp),if_neg (by simp [h0])]
theorem zfs {m : MetD} (hR : RightM m) (hs : StrictT m.2.2.2.2.1) {f : Int} (hf : fmtB f = true) (h0 : expM m f = 0) : (lineF m f).length ≤ 8192:=by
  have hi:=hR.inv hs
  have hnm:=(zcg hi.nm).2
  unfold lineF
  rcases z8 hf with rfl | rfl | rfl
  · obtain ⟨nm,k,d,r,rfl,_,h1,h4,hd,hr1,hr2,_⟩:=zeg h0
    rw [if_pos rfl]
    have hv:=zb5 ((zcr hR).1 d (by simp)).1 hd
    have hw:=zl4 k
    have hr:=(zgj hr1 hr2).2
    unfold lineS rateL valL
    dsimp only at hnm ⊢
    split <;> simp only [List.length_append,List.length_cons,List.length_nil] <;> omega
  · rw [if_neg (by decide),if_pos rfl]
    exact zmo hi
  · rw [if_neg (by decide),if_neg (by decide)]
    have:=zvi hR.ok h0 (by omega)
    omega
abbrev LinR:=List (List UInt8) × Int × Int × Unit
def linesB (l : List MetL) (f : Int) : LinR:=
  if fmtB f = false then ([],0,29,()) else if (normB l).2.2.1 = 0 then (if (expB (normB l).1 f).2.1 = 0 then ((normB l).1.map fun m => lineF (opM m) f,0,0,()) else ([],(expB (normB l).1 f).1,(expB (normB l).1 f).2.1,())) else ([],(normB l).2.1,(normB l).2.2.1,())
theorem zp6 (n : Nat) (hn : 200000 ≤ n) (f : Int) (hf : fmtB f = true) (k0 : List (List UInt8)→Nat→Option LinR) (kr : List (List UInt8)→Int→Int→Nat→Option LinR) (h0 : ∀ a k,k0 a k = some (a,0,0,())) (l : List MetL) (hR : RightB l) (he : ∀ m ∈ l,expM (opM m) f = 0) :
    ∀ (r : List MetL) (i m : Nat) (out : List (List UInt8)),l.drop i = r→out.length = i→r.length < m→F.zy.L12 n k0 kr m f out l (l.length : Int) (i : Int) out.length = some (out ++ r.map fun m => lineF (opM m) f,0,0,()):=by
  have hl:=hR.1
  intro r
  induction r with
  | nil =>
    intro i m out hi ho hm
    have:=zm hi
    obtain ⟨m,rfl⟩ : ∃ q,m = q + 1:=⟨m - 1,by omega⟩
    rw [F.zy.L12]
    unfold F.zy.L12.step
    dsimp only
    rw [zg (by omega),h0]
    simp
  | cons x r ih =>
    intro i m out hi ho hm
    obtain ⟨g1,g2,g3⟩:=zk hi
    obtain ⟨m,rfl⟩ : ∃ q,m = q + 1:=⟨m - 1,by omega⟩
    have hx:=List.mem_of_getElem? g2
    obtain ⟨x1,x2⟩:=hR.2 x hx
    have hN : F.zbj n (x.1,x.2.1,x.2.2.1,x.2.2.2.1,x.2.2.2.2.1,x.2.2.2.2.2,()) f = some (lineF (opM x) f,0,()):=by
      rw [← znx x1 x2 hf (he x hx)]
      exact znw n hn (opM x) x1.ok f
    rw [F.zy.L12]
    unfold F.zy.L12.step
    dsimp only
    rw [zd (by omega),zr,g2,za,hN,za,beq_self_eq_true,Bool.not_true,cond_false,growL (by omega),Nat.beq_refl,cond_true,zh (by omega),ih (i + 1) m _ g3 (by simp [ho]) (by simp at hm; omega)]
    simp
theorem bound16 {k : Nat} (h : k ≤ 1000) {X : Type} (y : Option X) : (bif decide True && (decide ((0 : Int) ≤ (k : Int)) && decide ((16 : Int) * (k : Int) ≤ 281474976710656) && decide ((k : Int) ≤ 281474976710656)) && true then y else none) = y:=by
  rw [decide_eq_true (by omega : (0 : Int) ≤ (k : Int)),decide_eq_true (by omega : (16 : Int) * (k : Int) ≤ 281474976710656),decide_eq_true (by omega : (k : Int) ≤ 281474976710656)]; rfl
theorem zmt (n : Nat) (hn : 200000 ≤ n) (l : List MetL) (hok : BatOK l) (f : Int) : F.zy n l f = some (linesB l f):=by
  unfold F.zy linesB
  rw [zfq n hn l hok]
  cases hf : fmtB f
  · have h1 : f ≠ 1:=fun e => by rw [e] at hf; cases hf
    have h2 : f ≠ 2:=fun e => by rw [e] at hf; cases hf
    have h3 : f ≠ 3:=fun e => by rw [e] at hf; cases hf
    rw [beq_eq_false_iff_ne.2 h1,beq_eq_false_iff_ne.2 h2,beq_eq_false_iff_ne.2 h3,if_pos rfl]
    rfl
  · rw [if_neg (by simp)]
    simp only [za]
    rcases zgo hok with ⟨h2,hR,-,-⟩ | ⟨i,e,he,h⟩
    · generalize hq : normB l = q at h2 hR
      obtain ⟨q,q2⟩:=q
      dsimp only at h2 hR
      subst h2
      rw [zou n hn q hR.ok]
      simp only [za,beq_self_eq_true,Bool.not_true,cond_false,if_true]
      by_cases h0 : (expB q f).2.1 = 0
      · obtain ⟨-,hx⟩:=zj9 hR h0
        rw [if_pos h0,h0,beq_self_eq_true,Bool.not_true,cond_false,bound16 hR.1]
        have L:=zp6 n hn f hf (fun a k => some (a,0,0,())) (fun a b c d => some (a,b,c,())) (fun _ _ => rfl) q hR hx q 0 n [] rfl rfl (by have:=hR.1; omega)
        rcases z8 hf with rfl | rfl | rfl <;> exact L
      · rw [if_neg h0,beq_eq_false_iff_ne.2 h0]
        rcases z8 hf with rfl | rfl | rfl <;> rfl
    · rw [h]
      dsimp only
      rw [if_neg he,beq_eq_false_iff_ne.2 he]
      rcases z8 hf with rfl | rfl | rfl <;> rfl
def encB (l : List MetL) (f : Int) : List UInt8 × Int × Int × Unit:=(feeds (linesB l f).1,(linesB l f).2.1,(linesB l f).2.2.1,())
theorem zc4 {l : List MetL} (hok : BatOK l) (f : Int) : ((linesB l f).2 = (0,0,()) ∧ fmtB f = true ∧ (normB l).2 = (0,0,()) ∧ RightB (normB l).1 ∧ (∀ m ∈ (normB l).1,expM (opM m) f = 0) ∧ (linesB l f).1 = (normB l).1.map fun m => lineF (opM m) f) ∨ (∃ i e : Int,e ≠ 0 ∧ linesB l f = ([],i,e,())):=by
  unfold linesB
  cases hf : fmtB f
  · rw [if_pos rfl]; exact Or.inr ⟨0,29,by decide,rfl⟩
  · rw [if_neg (by simp)]
    rcases zgo hok with ⟨h2,hR,-,-⟩ | ⟨i,e,he,h⟩
    · rw [if_pos (by rw [h2])]
      by_cases h0 : (expB (normB l).1 f).2.1 = 0
      · rw [if_pos h0]
        exact Or.inl ⟨rfl,rfl,h2,hR,(zj9 hR h0).2,rfl⟩
      · rw [if_neg h0]
        exact Or.inr ⟨_,_,h0,rfl⟩
    · rw [h,if_neg he]
      exact Or.inr ⟨i,e,he,rfl⟩
theorem zp7 {l : List MetL} (hok : BatOK l) (f : Int) : (linesB l f).1.length ≤ 1000 ∧ ∀ s ∈ (linesB l f).1,s.length ≤ 8192:=by
  rcases zc4 hok f with ⟨-,hf,-,hR,he,h⟩ | ⟨i,e,-,h⟩
  · rw [h]
    refine ⟨by rw [List.length_map]; exact hR.1,fun s hs => ?_⟩
    obtain ⟨m,hm,rfl⟩:=List.mem_map.1 hs
    exact zfs (hR.2 m hm).1 (hR.2 m hm).2 hf (he m hm)
  · rw [h]; exact ⟨by simp,fun s hs => by cases hs⟩
theorem growU {X : Type} {a b : Nat} (h : a + b ≤ 100000000) (y : Option X) : (bif decide ((a + b) * 1 ≤ 2 ^ 46) && decide (0 < 1 ∧ 1 ≤ 2 ^ 20) then y else none) = y:=by
  rw [decide_eq_true (by omega)]; rfl
theorem zv0 (n : Nat) (k0 : List UInt8→Nat→Option (List UInt8 × Int × Int × Unit)) (h0 : ∀ a k,k0 a k = some (a,0,0,())) (l : List (List UInt8)) (hl : l.length ≤ 1000) (hs : ∀ s ∈ l,s.length ≤ 8192) :
    ∀ (r : List (List UInt8)) (i m : Nat) (out : List UInt8),l.drop i = r→out.length ≤ i * 8193→r.length < m→F.zx.L6 n k0 m out l (l.length : Int) (i : Int) out.length = some (out ++ feeds r,0,0,()):=by
  intro r
  induction r with
  | nil =>
    intro i m out hi ho hm
    have:=zm hi
    obtain ⟨m,rfl⟩ : ∃ q,m = q + 1:=⟨m - 1,by omega⟩
    rw [F.zx.L6]
    unfold F.zx.L6.step
    dsimp only
    rw [zg (by omega),h0]
    simp [feeds]
  | cons x r ih =>
    intro i m out hi ho hm
    obtain ⟨g1,g2,g3⟩:=zk hi
    obtain ⟨m,rfl⟩ : ∃ q,m = q + 1:=⟨m - 1,by omega⟩
    have hx:=hs x (List.mem_of_getElem? g2)
    have hb : i * 8193 ≤ 1000 * 8193:=Nat.mul_le_mul_right _ (by omega)
    rw [F.zx.L6]
    unfold F.zx.L6.step
    dsimp only
    rw [zd (by omega),zr,g2,za,growU (by omega),Nat.beq_refl,cond_true,growU (by simp; omega),Nat.beq_refl,cond_true,zh (by omega),ih (i + 1) m _ g3 (by simp; omega) (by simp at hm; omega)]
    simp [feeds]
theorem zew (n : Nat) (hn : 200000 ≤ n) (l : List MetL) (hok : BatOK l) (f : Int) : F.zx n l f = some (encB l f):=by
  unfold F.zx encB
  rw [zmt n hn l hok f,za]
  obtain ⟨h1,h2⟩:=zp7 hok f
  rcases zc4 hok f with ⟨h,-⟩ | ⟨i,e,he,h⟩
  · generalize linesB l f = q at h1 h2 h
    obtain ⟨q,q2⟩:=q
    dsimp only at h h1 h2
    subst h
    rw [beq_self_eq_true,Bool.not_true,cond_false]
    exact zv0 n _ (fun _ _ => rfl) q h1 h2 q 0 n [] rfl (by simp) (by omega)
  · rw [h]
    dsimp only
    rw [beq_eq_false_iff_ne.2 he]
    rfl
def fewB (l : List MetL) : Bool:=(l.take 41).all (fun m => smallB (opM m)) && decide (l.length ≤ 40)
theorem zp8 (n : Nat) (hn : 200000 ≤ n) (k0 : List MetL→Option Bool) (kr : Bool→Option Bool) (h0 : ∀ l,k0 l = some (decide ((l.length : Int) ≤ 40))) (hr : ∀ b,kr b = some b) (l : List MetL) (hs : ∀ m ∈ l,m.2.2.2.2.1.length ≤ 140737488351232) : ∀ (r : List MetL) (i m : Nat),l.drop i = r→i ≤ 41→42 < m + i→F.zai.L2 n k0 kr m l (i : Int) = some ((r.take (41 - i)).all (fun m => smallB (opM m)) && decide (l.length ≤ 40)):=by
  have hd : decide ((l.length : Int) ≤ 40) = decide (l.length ≤ 40):=decide_eq_decide.2 (by omega)
  intro r
  induction r with
  | nil =>
    intro i m hi h41 hm
    have:=zm hi
    obtain ⟨m,rfl⟩ : ∃ q,m = q + 1:=⟨m - 1,by omega⟩
    rw [F.zai.L2]
    unfold F.zai.L2.step
    dsimp only
    rw [zg (by omega),h0,hd]
    simp
  | cons x r ih =>
    intro i m hi h41 hm
    obtain ⟨g1,g2,g3⟩:=zk hi
    obtain ⟨m,rfl⟩ : ∃ q,m = q + 1:=⟨m - 1,by omega⟩
    rw [F.zai.L2]
    unfold F.zai.L2.step
    dsimp only
    rw [zd (by omega)]
    by_cases h : i < 41
    · have hN : F.zu n (x.1,x.2.1,x.2.2.1,x.2.2.2.1,x.2.2.2.2.1,x.2.2.2.2.2,()) = some (smallB (opM x)):=zu4 n hn (opM x) (hs x (List.mem_of_getElem? g2))
      rw [zd (by omega),zr,g2,za,hN,za,show 41 - i = (41 - (i + 1)) + 1 by omega,List.take_succ_cons,List.all_cons]
      cases smallB (opM x)
      · rw [Bool.not_false,cond_true,hr]; rfl
      · rw [Bool.not_true,cond_false,zh (by omega),ih (i + 1) m g3 (by omega) (by omega),Bool.true_and]
    · rw [zg (by omega),h0,hd,show 41 - i = 0 by omega]
      simp
theorem zv1 (n : Nat) (hn : 200000 ≤ n) (l : List MetL) (hs : ∀ m ∈ l,m.2.2.2.2.1.length ≤ 140737488351232) : F.zai n l = some (fewB l):=by
  unfold F.zai
  exact zp8 n hn _ _ (fun _ => rfl) (fun _ => rfl) l hs l 0 n rfl (by omega) (by omega)
theorem zv2 {l : List MetL} (hw : ∀ m ∈ l,MetWf (opM m)) (h : fewB l = true) : BatOK l ∧ l.length ≤ 40:=by
  unfold fewB at h
  simp only [Bool.and_eq_true,decide_eq_true_eq] at h
  obtain ⟨h1,h2⟩:=h
  rw [List.take_of_length_le (by omega)] at h1
  exact ⟨fun m hm => (zu5 (hw m hm) (List.all_eq_true.1 h1 m hm)).1,h2⟩
theorem zmu (b : Nat) : ∀ l : List (List UInt8),(∀ s ∈ l,s.length ≤ b)→(feeds l).length ≤ l.length * (b + 1)
  | [],_ => by simp [feeds]
  | x :: l,h => by
    have h1:=h x (by simp)
    have h2:=zmu b l fun s hs => h s (by simp [hs])
    have h3 : (l.length + 1) * (b + 1) = l.length * (b + 1) + (b + 1):=Nat.succ_mul _ _
    simp only [feeds,List.length_append,List.length_cons,List.length_nil]
    omega
end Go.AM
set_option linter.unusedVariables false
set_option linter.unusedSimpArgs false
namespace Go.AM
theorem zkh {r : Int} (h1 : 1 ≤ r) (h2 : r < 1000000) (z : Nat) : (124 : UInt8) ∉ (rateText r).1 ++ List.replicate z 48:=by
  rw [zai ⟨h1,h2⟩]
  obtain ⟨p1,p2,p3,p4⟩:=za0 (k:=r.toNat) (by omega)
  have:=zsc (zl.2 ⟨zbc p3,zal z⟩)
  simpa using this
theorem zsw {m : MetD} (hm : MetOK m) (h : expM m 1 = 0) : sdParse (lineS m) = some (m,(0,0,()),()):=by
  obtain ⟨nm,k,d,r,rfl,hnm,k1,k4,hd,r1,r2,hr2,hneg⟩:=zeg h
  have hdo : DecLOK d:=hm.2.1.2 d (by simp)
  obtain ⟨neg,c,e,rfl,hc,he⟩:=zaz hdo
  have hd' : checkR neg c e = 0:=hd
  have hp:=zee neg c hc e hd'
  have hkw:=zr9 k1 k4
  have hk0 : ¬ kindOf (wordL k) = 0:=by rw [hkw]; omega
  have hg : ¬ (kindOf (wordL k) = 2 ∧ (textD neg c e).head? = some 45):=by
    rw [hkw]
    rintro ⟨h2,h45⟩
    have : neg = false:=hneg h2
    subst this
    exact zpo c e h45
  have hfree:=zhz neg c e
  unfold lineS rateL
  simp only
  by_cases hr : r = 1000000
  · rw [if_pos hr]
    have L:=zl6 (d:=(neg,(c : Int),e)) hnm hfree hp hk0 hg
    have e1 : nm ++ [58] ++ valL [(neg,(c : Int),e)] ++ [124] ++ wordL k ++ [] = nm ++ 58 :: (textD neg c e ++ 124 :: wordL k):=by
      have : valL [(neg,(c : Int),e)] = textD neg c e:=rfl
      rw [this]; simp
    rw [e1,L,hkw,hr]
  · rw [if_neg hr]
    have L:=zoo (d:=(neg,(c : Int),e)) hnm hfree hp hk0 hg (64 :: (rateText r).1)
    have e1 : nm ++ [58] ++ valL [(neg,(c : Int),e)] ++ [124] ++ wordL k ++ ([124,64] ++ (rateText r).1) = nm ++ 58 :: (textD neg c e ++ 124 :: (wordL k ++ 124 :: (64 :: (rateText r).1))):=by
      have : valL [(neg,(c : Int),e)] = textD neg c e:=rfl
      rw [this]; simp
    have hfr : (124 : UInt8) ∉ (rateText r).1:=by
      have:=zkh r1 (by omega) 0
      simpa using this
    have hk2 : ¬ k = 2:=fun h => hr (hr2 h)
    have hread : rateR (rateText r).1 = numR r 0 0:=by
      rw [zai ⟨r1,by omega⟩]
      have:=zjw r ⟨r1,by omega⟩ 0
      obtain ⟨p1,p2,p3,p4⟩:=za0 (k:=r.toNat) (by omega)
      have hle:=zcd (pad6 r.toNat)
      rw [if_pos (by omega),List.replicate_zero,List.append_nil] at this
      exact this
    rw [e1,L]
    have hdr : (64 :: (rateText r).1 : List UInt8).drop 1 = (rateText r).1:=rfl
    rw [hdr,za7 hfr,hread,hkw]
    have hhd : (64 :: (rateText r).1 : List UInt8).head? = some 64:=rfl
    rw [if_neg (fun hh => hh hhd),if_neg (show ¬ (¬ (numR r 0 0).2.1.1 = 0 ∨ (k = 2 ∧ ¬ (numR r 0 0).1 = 1000000)) from by
      rintro (h | h)
      · exact h rfl
      · exact hk2 h.1),if_neg hfr]
    rfl
theorem zp9 {s : List UInt8} (hs : s.length ≤ 10000) {name value word tail : List UInt8} {d : DecL} {r : Int} (h0 : s = name ++ 58 :: (value ++ 124 :: (word ++ tail))) (hn : nameOK name = true) (hp : parseR value = ((d.1,d.2.1,d.2.2,()),(0,0,()),())) (hk : ¬ kindOf word = 0) (hg : ¬ (kindOf word = 2 ∧ value.head? = some 45))
    (ht : tail = [] ∧ r = 1000000 ∨ ∃ rt,tail = 124 :: 64 :: rt ∧ (rateR rt).2.1.1 = 0 ∧ (rateR rt).1 = r ∧ (kindOf word = 2→r = 1000000) ∧ (124 : UInt8) ∉ rt) :
    MetOK (name,kindOf word,[d],r,[],0,()) ∧ expM (name,kindOf word,[d],r,[],0,()) 1 = 0 ∧ chkM (name,kindOf word,[d],r,[],0,()) = 0 ∧ (lineS (name,kindOf word,[d],r,[],0,())).length ≤ s.length:=by
  obtain ⟨neg,c,e,q1,q2,q3,q4⟩:=zg2 (s:=value) (by rw [hp])
  have hd : d = (neg,(c : Int),e):=by
    rw [hp] at q1
    have w1 : d.1 = neg:=congrArg (fun r : ParseR => r.1.1) q1
    have w2 : d.2.1 = (c : Int):=congrArg (fun r : ParseR => r.1.2.1) q1
    have w3 : d.2.2 = e:=congrArg (fun r : ParseR => r.1.2.2.1) q1
    exact Prod.ext w1 (Prod.ext w2 w3)
  subst hd
  obtain ⟨t1,t2⟩:=zhy q1
  obtain ⟨hw1,hw2,hw3,hw4⟩:=zhx hk
  have hrate : 1 ≤ r ∧ r ≤ 1000000 ∧ (kindOf word = 2→r = 1000000) ∧ (rateL r).length ≤ tail.length:=by
    rcases ht with ⟨h1,h2⟩ | ⟨rt,h1,h2,h3,h4,h5⟩
    · subst h1 h2
      exact ⟨by decide,by decide,fun _ => rfl,by decide⟩
    · obtain ⟨g1,g2,g3,g4,a,j,g5,g6,g7,g8⟩:=zf1 h2
      rw [h3] at g2 g3 g6
      refine ⟨g2,g3,h4,?_⟩
      unfold rateL
      by_cases hr : r = 1000000
      · rw [if_pos hr]; simp
      · rw [if_neg hr,h1,g5,g6]; simp
  obtain ⟨r1,r2,r3,r4⟩:=hrate
  have hlen:=congrArg List.length h0
  simp at hlen
  have hd0 : decC (neg,(c : Int),e) = 0:=q4
  have hck : chkM (name,kindOf word,[(neg,(c : Int),e)],r,[],0,()) = 0:=by
    have e1 : kindB (kindOf word) = true:=by unfold kindB; simp; omega
    have e2 : valsB [(neg,(c : Int),e)] = true:=by unfold valsB; simp [hd0]
    have e3 : rateB (kindOf word) r = true:=by
      unfold rateB
      simp only [Bool.and_eq_true,decide_eq_true_eq,Bool.or_eq_true,Bool.not_eq_true',beq_eq_false_iff_ne,beq_iff_eq]
      refine ⟨r1,r2,?_⟩
      by_cases h : kindOf word = 2
      · exact Or.inr (r3 h)
      · exact Or.inl h
    unfold chkM
    simp only [hn,e1,e2,e3]
    rfl
  refine ⟨⟨?_,⟨by simp,fun d' hd' => ?_⟩,by simp,fun t ht => by simp at ht⟩,?_,hck,?_⟩
  · show name.length ≤ 10000; omega
  · have : d' = (neg,(c : Int),e):=by simpa using hd'
    subst this
    rw [z7] at q2
    refine ⟨trivial,⟨?_,?_⟩,q3.1,q3.2⟩
    · show (0 : Int) ≤ (c : Int); omega
    · show (c : Int) ≤ 18446744073709551615; omega
  · unfold expM
    rw [if_neg (by omega),if_pos hck]
    have : saysM (name,kindOf word,[(neg,(c : Int),e)],r,[],0,()) 1 = true:=by
      unfold saysM
      rw [if_pos rfl]
      unfold saysS bareM negM
      have h5 : (kindOf word == 5) = false:=by rw [beq_eq_false_iff_ne]; omega
      simp only [h5]
      by_cases h2 : kindOf word = 2
      · have : neg = false:=by
          cases hh : neg
          · rfl
          · exact absurd ⟨h2,t2 hh⟩ hg
        rw [this]; simp
      · have : (kindOf word == 2) = false:=by simpa using h2
        rw [this]; simp
    rw [this]; rfl
  · unfold lineS
    have : valL [(neg,(c : Int),e)] = textD neg c e:=rfl
    simp only [this,← hw1]
    simp
    omega
end Go.AM
set_option linter.unusedVariables false
set_option linter.unusedSimpArgs false
namespace Go.AM
theorem zg8 {s : List UInt8} (h : nameOK s = true) : 1 ≤ s.length:=(zcg h).1
structure ParsedT (s : List UInt8) (f : Int) : Prop where
  fm : fmtB f = true
  ok : (parseT s f).2.1 = (0,0,())
  inv : InvM (parseT s f).1
  can : expM (parseT s f).1 f = 0
  min : 3 ≤ s.length
  max : s.length ≤ 8192
theorem zsx {s : List UInt8} {f : Int} (h : (parseT s f).2.1.1 = 0) : ParsedT s f:=by
  have he : parseT s f = if fmtB f = false then badM 29 0 else if 8192 < s.length then badM 12 0 else if f = 1 then sdM s else if f = 2 then parseD s else grParse s:=rfl
  rw [he] at h
  cases hf : fmtB f
  · rw [hf,if_pos rfl] at h; exact absurd h (by decide)
  rw [hf,if_neg (by simp)] at he h
  by_cases hl : 8192 < s.length
  · rw [if_pos hl] at h; exact absurd h (by decide)
  rw [if_neg hl] at he h
  have fin : ∀ {q : MetD × (Int × Int × Unit) × Unit},parseT s f = q→q.2.1 = (0,0,())→MetOK q.1→chkM q.1 = 0→StrictT q.1.2.2.2.2.1→expM q.1 f = 0→3 ≤ s.length→ParsedT s f:=fun e h1 h2 h3 h4 h5 h6 =>
    ⟨hf,by rw [e]; exact h1,by rw [e]; exact RightM.inv ⟨h2,h3⟩ h4,by rw [e]; exact h5,h6,by omega⟩
  rcases z8 hf with rfl | rfl | rfl
  · rw [if_pos rfl] at he h
    rcases zg1 s with ⟨c,a,h1,h2,_⟩ | ⟨name,value,word,tail,d,r,h0,h1,_,h3,h4,h5,h6,h7⟩
    · rw [zdz] at h1
      rw [Option.some.inj h1] at h
      exact absurd h h2
    · obtain ⟨q1,q2,q3,q4⟩:=zp9 (by omega) h0 h1 h3 h4 h5 h6
      rw [zdz] at h7
      rw [Option.some.inj h7] at he
      refine fin he rfl q1 q3 List.Pairwise.nil q2 ?_
      have:=zg8 h1
      rw [h0]
      simp only [List.length_append,List.length_cons]
      omega
  · rw [if_neg (by decide),if_pos rfl] at he h
    rcases zfo s with ⟨h1,hI⟩ | ⟨e,a,h1,_,_,h2⟩
    · refine fin he h1 hI.right.ok hI.right.chk hI.tg.2.2 ?_ ?_
      · unfold expM
        rw [if_neg (by decide),if_pos hI.right.chk]
        rfl
      · have hI':=hI
        unfold parseD at h1
        rw [if_neg hl] at h1
        rw [zej] at h1
        by_cases h124 : (124 : UInt8) ∈ s
        · rw [if_pos h124,linesR] at h1
          have hlt:=za6 h124
          cases hfr : firstR (seg 124 s) with
          | error e =>
            rw [hfr] at h1
            have:=(zel (e:=e.1) (a:=e.2) hfr).1
            exact absurd (congrArg (·.1) h1) this
          | ok x =>
            have:=hfr
            unfold firstR at this
            split at this
            · cases this
            · rename_i hnm
              split at this
              · cases this
              · rename_i h58
                have h58 : (58 : UInt8) ∈ seg 124 s:=Classical.byContradiction h58
                have l1:=za6 h58
                have:=zg8 (show nameOK (seg 58 (seg 124 s)) = true by simpa using hnm)
                omega
        · rw [if_neg h124,linesR] at h1
          cases hfr : firstR s with
          | error e =>
            rw [hfr] at h1
            have:=(zel (e:=e.1) (a:=e.2) hfr).1
            exact absurd (congrArg (·.1) h1) this
          | ok x =>
            rw [hfr] at h1
            dsimp only at h1
            unfold secondR at h1
            exact absurd (congrArg (·.1) h1) (show ¬ ((11 : Int) = 0) by decide)
    · rw [h2] at h
      exact absurd h h1
  · rw [if_neg (by decide),if_neg (by decide)] at he h
    rcases zmc s with ⟨c,a,h1,h2,_⟩ | ⟨name,value,time,d,h0,h1,_,_,_,h5,h6,h7⟩
    · rw [h1] at h
      exact absurd h h2
    · obtain ⟨q1,q2,q3,q4⟩:=znp (by omega) h0 h1 h5 h6
      rw [h7] at he
      refine fin he rfl q1 q3 List.Pairwise.nil q2 ?_
      have:=zg8 h1
      rw [h0]
      simp only [List.length_append,List.length_cons]
      omega
theorem zqa {m : MetD} (hI : InvM m) {f : Int} (hf : fmtB f = true) (h0 : expM m f = 0) : parseT (lineF m f) f = (m,(0,0,()),()):=by
  have hl:=zfs hI.right hI.tg.2.2 hf h0
  unfold parseT
  rw [if_neg (by simp [hf]),if_neg (by omega)]
  unfold lineF
  rcases z8 hf with rfl | rfl | rfl
  · rw [if_pos rfl,if_pos rfl]
    unfold sdM
    rw [zsw hI.right.ok h0]
    rfl
  · rw [if_neg (by decide),if_pos rfl,if_neg (by decide),if_pos rfl,zp2 hI]
  · rw [if_neg (by decide),if_neg (by decide),if_neg (by decide),if_neg (by decide),zpr hI.right.ok h0]
def vis (s : List UInt8) : Bool:=s.all fun b => decide (32 ≤ b.toNat)
theorem zau (a b : List UInt8) : vis (a ++ b) = (vis a && vis b):=List.all_append
theorem zv3 {s : List UInt8} (h : vis s = true) : (10 : UInt8) ∉ s:=fun hm => absurd (List.all_eq_true.1 h _ hm) (by decide)
theorem zov {s : List UInt8} {p : UInt8→Bool} (h : s.all p = true) (hp : ∀ b,p b = true→32 ≤ b.toNat) : vis s = true:=List.all_eq_true.2 fun b hb => decide_eq_true (hp b (List.all_eq_true.1 h b hb))
theorem zmv {s : List UInt8} (h : Digs s) : vis s = true:=zov h fun b hb => by
  unfold isDig at hb
  simp only [Bool.and_eq_true,decide_eq_true_eq] at hb
  omega
theorem zyj {c : Int} {b : UInt8} (h : cls c b = true) : 32 ≤ b.toNat:=by
  have key : ∀ k : Fin 32,btw ((k.val : Nat) : Int) 33 126 = false ∧ (((k.val : Nat) : Int) == 47) = false ∧ wordI ((k.val : Nat) : Int) = false ∧ btw ((k.val : Nat) : Int) 48 57 = false:=by decide
  rcases Nat.lt_or_ge b.toNat 32 with hb | hb
  · exfalso
    obtain ⟨h1,h2,h3,h4⟩:=key ⟨b.toNat,hb⟩
    dsimp only at h1 h2 h3 h4
    unfold cls at h
    rw [h1,h2,h3,h4] at h
    revert h
    cases (c == 3) <;> cases (c == 2) <;> cases (c == 1) <;> simp
  · exact hb
theorem zft {c : Int} {s : List UInt8} {lo hi : Int} (h : (textF c s lo hi).1 = 0) : vis s = true:=zov (za1 h).2.2 fun b hb => zyj hb
theorem zv4 {s : List UInt8} (h : nameOK s = true) : vis s = true:=zft (c:=1) (lo:=1) (hi:=200) (by unfold nameOK at h; simpa using h)
theorem zka (neg : Bool) (c : Nat) (e : Int) : vis (textD neg c e) = true:=List.all_eq_true.2 fun b hb => by
  rcases zbj neg c e b hb with ⟨rfl,_⟩ | hd | rfl
  · decide
  · unfold isDig at hd
    simp only [Bool.and_eq_true,decide_eq_true_eq] at hd
    exact decide_eq_true (by omega)
  · decide
theorem zmw {l : List (List UInt8)} (h : ∀ x ∈ l,vis x = true) : vis l.flatten = true:=List.all_eq_true.2 fun b hb => by
  obtain ⟨x,hx,hb⟩:=List.mem_flatten.1 hb
  exact List.all_eq_true.1 (h x hx) b hb
theorem zv5 {r : Int} (h1 : 1 ≤ r) (h2 : r ≤ 1000000) : vis (rateText r).1 = true:=by
  by_cases e : r = 1000000
  · subst e; rfl
  · rw [zai ⟨h1,by omega⟩]
    have hd : Digs (trz (pad6 r.toNat)):=zbc (za0 (k:=r.toNat) (by omega)).2.2.1
    have:=zmv hd
    show (decide (32 ≤ (48 : UInt8).toNat) && (decide (32 ≤ (46 : UInt8).toNat) && vis (trz (pad6 r.toNat)))) = true
    rw [this]; decide
theorem zv6 {m : MetD} (hI : InvM m) {f : Int} (hf : fmtB f = true) (h0 : expM m f = 0) : vis (lineF m f) = true:=by
  unfold lineF
  have hn:=zv4 hI.nm
  have hrate:=(zei hI.rt).2.2
  have hr:=zv5 hrate.1 hrate.2
  have hv : vis (valL m.2.2.1) = true:=by
    cases m.2.2.1 with
    | nil => rfl
    | cons d l => exact zka _ _ _
  have ht:=zmv (zaa m.2.2.2.2.2.1.toNat)
  rcases z8 hf with rfl | rfl | rfl
  · rw [if_pos rfl]
    unfold lineS rateL
    have hw : vis (wordL m.2.1) = true:=by
      unfold wordL
      repeat' split
      all_goals rfl
    have : vis (if m.2.2.2.1 = 1000000 then [] else [124,64] ++ (rateText m.2.2.2.1).1) = true:=by
      split
      · rfl
      · rw [zau,hr]; rfl
    simp only [zau,hn,hv,hw,this]
    rfl
  · rw [if_neg (by decide),if_pos rfl]
    unfold lineD
    have hw : vis (wordT m.2.1) = true:=by rcases zdj hI.kd with e | e | e | e | e <;> rw [e] <;> rfl
    have h1 : vis (rateP m.2.2.2.1) = true:=by
      unfold rateP
      split
      · rfl
      · rw [zau,hr]; rfl
    have h2 : vis (timeP m.2.2.2.2.2.1) = true:=by
      unfold timeP
      split
      · rfl
      · rw [zau,ht]; rfl
    have h3 : vis (valsT m.2.2.1) = true:=by
      unfold valsT
      refine zmw fun x hx => ?_
      obtain ⟨d,_,rfl⟩:=List.mem_map.1 hx
      have:=zka d.1 d.2.1.toNat d.2.2
      show (decide (32 ≤ (58 : UInt8).toNat) && vis (textL d)) = true
      unfold textL
      rw [this]; rfl
    have h4 : vis (tagsP m.2.2.2.2.1) = true:=by
      unfold tagsP
      split
      · rfl
      · rw [zau]
        have hone : ∀ x ∈ m.2.2.2.2.1.map oneT,vis x = true:=fun x hx => by
          obtain ⟨t,htm,rfl⟩:=List.mem_map.1 hx
          have hg:=hI.tg.1 t htm
          unfold tagGood at hg
          simp only [Bool.and_eq_true,beq_iff_eq] at hg
          have v1:=zft hg.1
          have v2:=zft hg.2
          unfold oneT
          split
          · exact v1
          · rw [zau,zau,v1,v2]; rfl
        have : vis (tagText m.2.2.2.2.1) = true:=by
          unfold tagText
          generalize m.2.2.2.2.1.map oneT = l at hone
          cases l with
          | nil => rfl
          | cons x l =>
            rw [Lib.join_cons,zau,hone x (by simp)]
            unfold Lib.joinTail
            refine zmw fun y hy => ?_
            obtain ⟨z,hz,rfl⟩:=List.mem_map.1 hy
            rw [zau,hone z (List.mem_cons_of_mem _ hz)]; rfl
        rw [this]; rfl
    simp only [zau,hn,hw,h1,h2,h3,h4]
    rfl
  · rw [if_neg (by decide),if_neg (by decide)]
    unfold lineG
    simp only [zau,hn,hv,ht]
    rfl
end Go.AM
set_option linter.unusedVariables false
set_option linter.unusedSimpArgs false
namespace Go.AM
def c29 : Option MetR→Prop
  | some x => x.2.1.1 ≠ 29
  | none => True
theorem zyk {p : Prop} [Decidable p] {a b : Option MetR} (ha : c29 a) (hb : c29 b) : c29 (if p then a else b):=by split <;> assumption
theorem zyl (s : List UInt8) : (sdM s).2.1.1 ≠ 29:=by
  have h : c29 (sdParse s):=by
    unfold sdParse nameS valueS kindS rateS badK' finK
    repeat' apply zyk
    all_goals first | exact (show ¬ ((15 : Int) = 29) by decide) | exact (show ¬ ((11 : Int) = 29) by decide) | exact (show ¬ ((17 : Int) = 29) by decide) | exact (show ¬ ((16 : Int) = 29) by decide) | exact (show ¬ ((26 : Int) = 29) by decide) | exact (show ¬ ((18 : Int) = 29) by decide) | exact (show ¬ ((0 : Int) = 29) by decide)
  rw [zdz] at h
  exact h
theorem zym (s : List UInt8) : (grParse s).2.1.1 ≠ 29:=by
  unfold grParse valueG timeS
  repeat' split
  all_goals first | exact (show ¬ ((15 : Int) = 29) by decide) | exact (show ¬ ((11 : Int) = 29) by decide) | exact (show ¬ ((17 : Int) = 29) by decide) | exact (show ¬ ((20 : Int) = 29) by decide) | exact (show ¬ ((0 : Int) = 29) by decide)
theorem zqb {m : MetD} {last : Int} {p : List UInt8} {e : Int} (hr : moreR m last p = .error e) : e ≠ 29:=by
  cases p with
  | nil => cases hr; decide
  | cons x s =>
    rw [moreR] at hr
    split at hr
    · split at hr
      · cases hr; decide
      · split at hr <;> cases hr; decide
    · split at hr
      · split at hr
        · cases hr; decide
        · split at hr
          · cases hr; decide
          · split at hr <;> cases hr; decide
      · split at hr
        · split at hr
          · cases hr; decide
          · split at hr <;> cases hr; decide
        · cases hr; decide
theorem zh9 : ∀ (r : List (List UInt8)) (a : Int) (m : MetD) (last : Int) (e b : Int),restR r a m last = .error (e,b)→e ≠ 29
  | [],a,m,last,e,b,h => by cases h
  | p :: r,a,m,last,e,b,h => by
    rw [restR] at h
    cases hm : moreR m last p with
    | error e' => rw [hm] at h; cases h; exact zqb hm
    | ok q => rw [hm] at h; exact zh9 r _ q.1 q.2 e b h
theorem zny (s : List UInt8) : (parseD s).2.1.1 ≠ 29:=by
  unfold parseD
  split
  · exact (show ¬ ((12 : Int) = 29) by decide)
  · cases hl : linesR s (splitL 124 s) with
    | ok m => exact (show ¬ ((0 : Int) = 29) by decide)
    | error e =>
      obtain ⟨e,a⟩:=e
      show e ≠ 29
      cases hp : splitL 124 s with
      | nil => rw [hp] at hl; cases hl; decide
      | cons p r =>
        rw [hp,linesR] at hl
        cases hf : firstR p with
        | error q =>
          rw [hf] at hl
          cases hl
          unfold firstR at hf
          split at hf
          · cases hf; decide
          · split at hf
            · cases hf; decide
            · split at hf <;> cases hf
              decide
        | ok x =>
          rw [hf] at hl
          dsimp only at hl
          unfold secondR at hl
          split at hl
          · cases hl; decide
          · split at hl
            · cases hl; decide
            · exact zh9 _ _ _ _ _ _ hl
theorem znz {s : List UInt8} {f : Int} (hf : fmtB f = true) : (parseT s f).2.1.1 ≠ 29:=by
  unfold parseT
  rw [if_neg (by simp [hf])]
  split
  · exact (show ¬ ((12 : Int) = 29) by decide)
  · split
    · exact zyl s
    · split
      · exact zny s
      · exact zym s
def appS : List (List UInt8)→List (List UInt8)→List (List UInt8)
  | [],B => B
  | [x],B => match B with
    | [] => [x]
    | q :: r => (x ++ q) :: r
  | x :: y :: l,B => x :: appS (y :: l) B
theorem zf3 {p : List UInt8} {r B : List (List UInt8)} (h : B ≠ []) : appS (p :: r) B ≠ []:=by
  cases r with
  | nil =>
    cases B with
    | nil => exact absurd rfl h
    | cons q s => exact List.cons_ne_nil _ _
  | cons q s => exact List.cons_ne_nil _ _
theorem zch {p : List UInt8} {r : List (List UInt8)} (h : r ≠ []) (f : Int) (out : List MetL) (a : Int) : decF f (p :: r) out a =
    if out.length = 1000 then .error (12,a) else if (parseT p f).2.1.1 ≠ 0 then .error ((parseT p f).2.1.1,a + (parseT p f).2.1.2.1) else decF f r (out ++ [toL (parseT p f).1]) (a + p.length + 1):=by
  cases r with
  | nil => exact absurd rfl h
  | cons q r => rfl
theorem zci (p : List UInt8) (r : List (List UInt8)) : sumL (p :: r) = p.length + 1 + sumL r:=by simp [sumL]
theorem zow (f : Int) : ∀ (ps : List (List UInt8)) (out : List MetL) (a : Int) (l : List MetL),decF f ps out a = .ok l →
    ∃ ms,l = out ++ ms ∧ (∀ m ∈ ms,InvM (opM m) ∧ expM (opM m) f = 0) ∧ 4 * ms.length ≤ sumL ps ∧ (out.length ≤ 1000→l.length ≤ 1000) ∧ ∀ B,B ≠ []→ps ≠ []→decF f (appS ps B) out a = decF f B l (a + sumL ps - 1)
  | [],out,a,l,h => by cases h; exact ⟨[],by simp,fun m hm => (by cases hm),by simp,id,fun B hB hp => absurd rfl hp⟩
  | [t],out,a,l,h => by
    rw [decF] at h
    split at h
    · rename_i ht
      cases h
      refine ⟨[],by simp,fun m hm => (by cases hm),by simp,id,fun B hB _ => ?_⟩
      subst ht
      cases B with
      | nil => exact absurd rfl hB
      | cons q r =>
        show decF f (([] ++ q) :: r) out a = _
        rw [List.nil_append,show a + (sumL [([] : List UInt8)] : Int) - 1 = a by show a + ((1 : Nat) : Int) - 1 = a; omega]
    · split at h <;> cases h
  | p :: q :: r,out,a,l,h => by
    rw [decF] at h
    split at h
    · cases h
    · rename_i h1
      split at h
      · cases h
      · rename_i hc
        have hc : (parseT p f).2.1.1 = 0:=Classical.byContradiction hc
        have hP:=zsx hc
        obtain ⟨ms,e1,e2,e3,e4,e5⟩:=zow f (q :: r) _ _ l h
        refine ⟨toL (parseT p f).1 :: ms,by rw [e1]; simp,fun m hm => ?_,?_,fun ho => e4 (by simp; omega),fun B hB _ => ?_⟩
        · rcases List.mem_cons.1 hm with rfl | hm
          · exact ⟨hP.inv,hP.can⟩
          · exact e2 m hm
        · rw [zci]
          have:=hP.min
          simp only [List.length_cons]
          omega
        · show decF f (p :: appS (q :: r) B) out a = _
          rw [zch (zf3 hB),if_neg h1,if_neg (fun hh => hh hc),e5 B hB (by simp),zci p (q :: r)]
          congr 1
          omega
theorem zmx (f : Int) : ∀ (ps : List (List UInt8)) (out : List MetL) (a c e : Int),decF f ps out a = .error (c,e) →
    c ≠ 0 ∧ a ≤ e ∧ e < a + sumL ps ∧ (fmtB f = true→c ≠ 29) ∧ (c ≠ 30→∀ B,B ≠ []→decF f (appS ps B) out a = .error (c,e))
  | [],out,a,c,e,h => by cases h
  | [t],out,a,c,e,h => by
    rw [decF] at h
    split at h
    · cases h
    · rename_i ht
      split at h
      · rename_i h1
        cases h
        refine ⟨by decide,by omega,by simp [sumL]; omega,fun _ => by decide,fun _ B hB => ?_⟩
        cases B with
        | nil => exact absurd rfl hB
        | cons q r =>
          show decF f ((t ++ q) :: r) out a = _
          cases r with
          | nil => rw [decF,if_neg (by simp [ht]),if_pos h1]
          | cons r1 r2 => rw [decF,if_pos h1]
      · cases h
        exact ⟨by decide,by omega,by simp [sumL]; omega,fun _ => by decide,fun hh => absurd rfl hh⟩
  | p :: q :: r,out,a,c,e,h => by
    rw [decF] at h
    split at h
    · rename_i h1
      cases h
      exact ⟨by decide,by omega,by rw [zci]; omega,fun _ => by decide,fun _ B hB => by show decF f (p :: appS (q :: r) B) out a = _; rw [zch (zf3 hB),if_pos h1]⟩
    · rename_i h1
      split at h
      · rename_i hc
        have:=zms p f
        cases h
        exact ⟨hc,by omega,by rw [zci]; omega,fun hf => znz hf,fun _ B hB => by show decF f (p :: appS (q :: r) B) out a = _; rw [zch (zf3 hB),if_neg h1,if_pos hc]⟩
      · rename_i hc
        obtain ⟨e1,e2,e3,e4,e5⟩:=zmx f (q :: r) _ _ c e h
        refine ⟨e1,by omega,by rw [zci]; omega,e4,fun hh B hB => ?_⟩
        show decF f (p :: appS (q :: r) B) out a = _
        rw [zch (zf3 hB),if_neg h1,if_neg hc,e5 hh B hB]
theorem zkb (f : Int) (hf : fmtB f = true) : ∀ (ms out : List MetL) (a : Int),(∀ m ∈ ms,InvM (opM m) ∧ expM (opM m) f = 0)→out.length + ms.length ≤ 1000→decF f ((ms.map fun m => lineF (opM m) f) ++ [[]]) out a = .ok (out ++ ms)
  | [],out,a,_,_ => by
    show decF f [[]] out a = _
    rw [decF,if_pos rfl,List.append_nil]
  | m :: ms,out,a,h,hl => by
    obtain ⟨h1,h2⟩:=h m (by simp)
    rw [List.map_cons,List.cons_append,zch (by simp),if_neg (by simp at hl; omega),zqa h1 hf h2,if_neg (by simp),zkb f hf ms _ _ (fun x hx => h x (by simp [hx])) (by simp at hl ⊢; omega),List.append_assoc]
    rfl
theorem zfu : ∀ l : List (List UInt8),(∀ x ∈ l,(10 : UInt8) ∉ x)→splitL 10 (feeds l) = l ++ [[]]
  | [],_ => rfl
  | x :: l,h => by
    have : feeds (x :: l) = x ++ 10 :: feeds l:=by simp [feeds]
    rw [this,zh5 (h x (by simp)),zfu l fun y hy => h y (by simp [hy])]
    rfl
theorem zfv {ms : List MetL} {f : Int} (hf : fmtB f = true) (h : ∀ m ∈ ms,InvM (opM m) ∧ expM (opM m) f = 0) (hl : ms.length ≤ 1000) : decodeT (feeds (ms.map fun m => lineF (opM m) f)) f = (ms,(0,0,()),()):=by
  unfold decodeT
  rw [if_neg (by simp [hf]),zfu _ (fun x hx => by
    obtain ⟨m,hm,rfl⟩:=List.mem_map.1 hx
    exact zv3 (zv6 (h m hm).1 hf (h m hm).2)),zkb f hf ms [] 0 h (by simpa using hl)]
  rfl
end Go.AM
set_option linter.unusedVariables false
set_option linter.unusedSimpArgs false
namespace Go.AM
def SmallB (l : List MetL) : Prop:=l.length ≤ 2000 ∧ ∀ x ∈ l,x.2.2.1.length ≤ 1000 ∧ x.2.2.2.2.1.length ≤ 1000
theorem zqc (n : Nat) (hn : 200000 ≤ n) (k0 : Unit→Option Bool) (kr : Bool→Option Bool) (l : List MetL) (h : SmallB l) : ∀ (r : List MetL) (i m : Nat),l.drop i = r→r.length < m→F.zv.L4_slices_EqualFunc_api_Metric_api_Metric_api_Metric_api_Metric n k0 kr m l l (l.length : Int) (i : Int) = k0 ():=by
  have hl:=h.1
  intro r
  induction r with
  | nil =>
    intro i m hi hm
    have:=zm hi
    obtain ⟨m,rfl⟩ : ∃ q,m = q + 1:=⟨m - 1,by omega⟩
    rw [F.zv.L4_slices_EqualFunc_api_Metric_api_Metric_api_Metric_api_Metric]
    unfold F.zv.L4_slices_EqualFunc_api_Metric_api_Metric_api_Metric_api_Metric.step
    dsimp only
    rw [zg (by omega)]
  | cons x r ih =>
    intro i m hi hm
    obtain ⟨g1,g2,g3⟩:=zk hi
    obtain ⟨m,rfl⟩ : ∃ q,m = q + 1:=⟨m - 1,by omega⟩
    obtain ⟨x1,x2⟩:=h.2 x (List.mem_of_getElem? g2)
    have hN : F.za9 n (x.1,x.2.1,x.2.2.1,x.2.2.2.1,x.2.2.2.2.1,x.2.2.2.2.2,()) (x.1,x.2.1,x.2.2.1,x.2.2.2.1,x.2.2.2.2.1,x.2.2.2.2.2,()) = some true:=by
      have:=zvb n hn (opM x) (opM x) (show x.2.2.1.length ≤ 10000 by omega) (show x.2.2.2.2.1.length ≤ 10000 by omega)
      rw [zoq rfl] at this
      exact this
    rw [F.zv.L4_slices_EqualFunc_api_Metric_api_Metric_api_Metric_api_Metric]
    unfold F.zv.L4_slices_EqualFunc_api_Metric_api_Metric_api_Metric_api_Metric.step
    dsimp only
    rw [zd (by omega),zr,g2,za,za,hN,za,Bool.not_true,cond_false,zh (by omega),ih (i + 1) m g3 (by simp at hm; omega)]
theorem zki (n : Nat) (hn : 200000 ≤ n) {l : List MetL} (h : SmallB l) : F.zv n l l = some true:=by
  unfold F.zv
  rw [beq_self_eq_true,Bool.not_true,cond_false]
  exact zqc n hn _ _ l h l 0 n rfl (by have:=h.1; omega)
theorem zsy {l : List MetL} (hl : l.length ≤ 2000) (h : ∀ m ∈ l,InvM (opM m)) : SmallB l:=⟨hl,fun x hx => ⟨by have : x.2.2.1.length ≤ 64:=(h x hx).vs.2.2; omega,by have : x.2.2.2.2.1.length ≤ 32:=(h x hx).tg.2.1; omega⟩⟩
theorem zyn (n : Nat) (hn : 200000 ≤ n) (f : Int) (k0 : Int→List MetL→Int→Int→Int→Int→Option Bool) (kr : Bool→Int→Int→Int→Int→Option Bool) (b0 b1 b2 b3 : Int) (l : List MetL) (hl : l.length ≤ 1000) (h : ∀ m ∈ l,InvM (opM m)) : ∀ (r : List MetL) (i m : Nat),l.drop i = r→r.length < m→F.zi.L15 n k0 kr m f l (i : Int) b0 b1 b2 b3 = k0 f l b0 b1 b2 b3:=by
  intro r
  induction r with
  | nil =>
    intro i m hi hm
    have:=zm hi
    obtain ⟨m,rfl⟩ : ∃ q,m = q + 1:=⟨m - 1,by omega⟩
    rw [F.zi.L15]
    unfold F.zi.L15.step
    dsimp only
    rw [zg (by omega)]
  | cons x r ih =>
    intro i m hi hm
    obtain ⟨g1,g2,g3⟩:=zk hi
    obtain ⟨m,rfl⟩ : ∃ q,m = q + 1:=⟨m - 1,by omega⟩
    have hN : F.zba n (x.1,x.2.1,x.2.2.1,x.2.2.2.1,x.2.2.2.2.1,x.2.2.2.2.2,()) = some true:=zmp n hn (h x (List.mem_of_getElem? g2))
    rw [F.zi.L15]
    unfold F.zi.L15.step
    dsimp only
    rw [zd (by omega),zr,g2,za,hN,za,Bool.not_true,cond_false,zh (by omega),ih (i + 1) m g3 (by simp at hm; omega)]
theorem zv7 (n : Nat) (hn : 200000 ≤ n) (f : Int) (k0 : Int→List MetL→Int→Int→Option Bool) (kr : Bool→Int→Int→Option Bool) (b0 b1 : Int) (l : List MetL) (hl : l.length ≤ 1000) (h : ∀ m ∈ l,InvM (opM m)) : ∀ (r : List MetL) (i m : Nat),l.drop i = r→r.length < m→F.zi.L15_1 n k0 kr m f l (i : Int) b0 b1 = k0 f l b0 b1:=by
  intro r
  induction r with
  | nil =>
    intro i m hi hm
    have:=zm hi
    obtain ⟨m,rfl⟩ : ∃ q,m = q + 1:=⟨m - 1,by omega⟩
    rw [F.zi.L15_1]
    unfold F.zi.L15_1.step
    dsimp only
    rw [zg (by omega)]
  | cons x r ih =>
    intro i m hi hm
    obtain ⟨g1,g2,g3⟩:=zk hi
    obtain ⟨m,rfl⟩ : ∃ q,m = q + 1:=⟨m - 1,by omega⟩
    have hN : F.zba n (x.1,x.2.1,x.2.2.1,x.2.2.2.1,x.2.2.2.2.1,x.2.2.2.2.2,()) = some true:=zmp n hn (h x (List.mem_of_getElem? g2))
    rw [F.zi.L15_1]
    unfold F.zi.L15_1.step
    dsimp only
    rw [zd (by omega),zr,g2,za,hN,za,Bool.not_true,cond_false,zh (by omega),ih (i + 1) m g3 (by simp at hm; omega)]
structure DecodedT (l : List MetL) (f : Int) : Prop where
  fm : fmtB f = true
  right : RightB l
  all : ∀ m ∈ l,InvM (opM m) ∧ expM (opM m) f = 0
theorem zkj (b : List UInt8) (f : Int) : ((decodeT b f).2 = ((0,0,()),()) ∧ DecodedT (decodeT b f).1 f) ∨ (∃ c e : Int,c ≠ 0 ∧ 0 ≤ e ∧ e ≤ b.length ∧ decodeT b f = ([],(c,e,()),())):=by
  unfold decodeT
  cases hf : fmtB f
  · rw [if_pos rfl]
    exact Or.inr ⟨29,0,by decide,by omega,by omega,rfl⟩
  · rw [if_neg (by simp)]
    have sb:=za2 10 b
    generalize splitL 10 b = pb at sb ⊢
    cases hB : decF f pb [] 0 with
    | error q =>
      obtain ⟨c,e⟩:=q
      obtain ⟨c0,e0,e1,-,-⟩:=zmx f pb [] 0 c e hB
      exact Or.inr ⟨c,e,c0,e0,by omega,rfl⟩
    | ok l =>
      obtain ⟨ms,f1,f2,f3,f4,-⟩:=zow f pb [] 0 l hB
      rw [List.nil_append] at f1
      subst f1
      exact Or.inl ⟨rfl,hf,⟨f4 (by simp),fun m hm => ⟨(f2 m hm).1.right,(f2 m hm).1.tg.2.2⟩⟩,f2⟩
theorem zfw {l : List MetL} {f : Int} (h : DecodedT l f) : expB l f = (0,0,()) ∧ encB l f = (feeds (l.map fun m => lineF (opM m) f),0,0,()) ∧ decodeT (encB l f).1 f = (l,(0,0,()),()):=by
  have hE : expB l f = (0,0,()):=by
    unfold expB
    rw [zfr h.right,if_neg (by rcases z8 h.fm with e | e | e <;> omega),if_pos rfl]
    refine zmr l f 0 fun m hm => ?_
    have:=(h.all m hm).2
    unfold expM at this
    rw [if_neg (by rcases z8 h.fm with e | e | e <;> omega),if_pos (h.all m hm).1.right.chk] at this
    cases hs : saysM (opM m) f
    · rw [hs] at this; cases this
    · rfl
  have hL : linesB l f = (l.map fun m => lineF (opM m) f,0,0,()):=by
    unfold linesB
    rw [if_neg (by simp [h.fm]),znt h.right,if_pos rfl]
    dsimp only
    rw [hE,if_pos rfl]
  refine ⟨hE,by unfold encB; rw [hL],?_⟩
  unfold encB
  rw [hL]
  exact zfv h.fm h.all h.right.1
theorem zqd {l : List MetL} (hok : BatOK l) (f : Int) : (∃ i e : Int,e ≠ 0 ∧ encB l f = ([],i,e,())) ∨ (DecodedT (normB l).1 f ∧ (normB l).2 = (0,0,()) ∧ encB l f = encB (normB l).1 f):=by
  unfold encB
  rcases zc4 hok f with ⟨h1,hf,h2,hR,he,h⟩ | ⟨i,e,he,h⟩
  · have hD : DecodedT (normB l).1 f:=⟨hf,hR,fun m hm => ⟨RightM.inv (hR.2 m hm).1 (hR.2 m hm).2,he m hm⟩⟩
    have:=(zfw hD).2.1
    unfold encB at this
    exact Or.inr ⟨hD,h2,by rw [this,h,h1]⟩
  · rw [h]
    exact Or.inl ⟨i,e,he,rfl⟩
theorem awake13M : F.zat 10000000 = some true:=by kernel_rfl
theorem zsz (n : Nat) (hn : 10000000 ≤ n) (hA : F.zat n = some true) (l : List MetL) (hw : ∀ m ∈ l,MetWf (opM m)) (hs : ∀ m ∈ l,m.2.2.2.2.1.length ≤ 140737488351232) (b : List UInt8) (f : Int) : F.zi n l b f = some true:=by
  unfold F.zi
  rw [zv1 n (by omega) l hs,za,hA]
  cases h : fewB l
  · rfl
  obtain ⟨hok,h40⟩:=zv2 hw h
  rw [Bool.not_true,cond_false]
  by_cases hb : 3000 < b.length
  · rw [zd (by omega)]; rfl
  rw [zg (by omega),zew n (by omega) l hok,zsv n (by omega) b (by omega),za,zfq n (by omega) l hok]
  have tail : ∀ {q : List MetL},DecodedT q f→(F.zk n q f = some (0,0,()) ∧ encB q f = (feeds (q.map fun m => lineF (opM m) f),0,0,()) ∧ F.zx n q f = some (feeds (q.map fun m => lineF (opM m) f),0,0,()) ∧ F.zm n (feeds (q.map fun m => lineF (opM m) f)) f = some (q,(0,0,()),()) ∧ F.zv n q q = some true):=fun {q} hD => by
    obtain ⟨e1,e2,e3⟩:=zfw hD
    have hl:=hD.right.1
    have hle:=zmu 8192 (q.map fun m => lineF (opM m) f) (fun s hs => by
      obtain ⟨m,hm,rfl⟩:=List.mem_map.1 hs
      exact zfs (hD.right.2 m hm).1 (hD.right.2 m hm).2 hD.fm (hD.all m hm).2)
    rw [List.length_map] at hle
    refine ⟨by rw [zou n (by omega) q hD.right.ok,e1],e2,by rw [zew n (by omega) q hD.right.ok f,e2],?_,zki n (by omega) (zsy (by omega) fun m hm => (hD.all m hm).1)⟩
    rw [zh8 n (by omega) _ (by omega) (by omega) f,zfv hD.fm hD.all hl]
  have hd:=zkj b f
  generalize decodeT b f = q at hd ⊢
  obtain ⟨q,q2⟩:=q
  rcases zqd hok f with ⟨i,e,he,hE⟩ | ⟨hD1,hN,hE⟩
  · rw [hE]
    dsimp only
    rw [beq_eq_false_iff_ne.2 he,cond_false,show (((([] : List UInt8).length : Nat) : Int) == 0) = true from rfl,Bool.not_true,cond_false]
    simp only [za]
    rcases hd with ⟨h1,hD⟩ | ⟨c,e,c0,e0,e1,h1⟩
    · dsimp only at h1 hD
      subst h1
      obtain ⟨t1,t2,t3,t4,t5⟩:=tail hD
      rw [show (!((0 : Int) == 0 && (0 : Int) == 0)) = false from rfl,cond_false]
      refine (zv7 n (by omega) f _ _ 0 0 q hD.right.1 (fun m hm => (hD.all m hm).1) q 0 n rfl (by have:=hD.right.1; omega)).trans ?_
      rw [t1,t3,za,za]
      dsimp only
      rw [t4,za,t5]
      rfl
    · obtain ⟨rfl,rfl⟩:=Prod.mk.injEq _ _ _ _ ▸ h1
      try dsimp only
      rw [beq_eq_false_iff_ne.2 c0,Bool.false_and,Bool.not_false,cond_true,zd (by omega),zd (by omega)]
      rfl
  · obtain ⟨u1,u2,u3,u4,u5⟩:=tail hD1
    generalize hq : normB l = q1 at hD1 hN hE u1 u2 u3 u4 u5 ⊢
    obtain ⟨q1,q3⟩:=q1
    dsimp only at hD1 hN hE u1 u2 u3 u4 u5
    subst hN
    rw [hE,u2]
    dsimp only
    rw [beq_self_eq_true,cond_true,u4,za,za]
    dsimp only
    simp only [beq_self_eq_true,Bool.and_self,Bool.not_true,cond_false,u5,za]
    rcases hd with ⟨h1,hD⟩ | ⟨c,e,c0,e0,e1,h1⟩
    · dsimp only at h1 hD
      subst h1
      obtain ⟨t1,t2,t3,t4,t5⟩:=tail hD
      try dsimp only
      simp only [beq_self_eq_true,Bool.and_self,Bool.not_true,cond_false]
      refine (zyn n (by omega) f _ _ 0 0 0 0 q hD.right.1 (fun m hm => (hD.all m hm).1) q 0 n rfl (by have:=hD.right.1; omega)).trans ?_
      rw [t1,t3,za,za]
      dsimp only
      rw [t4,za,t5]
      rfl
    · obtain ⟨rfl,rfl⟩:=Prod.mk.injEq _ _ _ _ ▸ h1
      try dsimp only
      rw [beq_eq_false_iff_ne.2 c0,Bool.false_and,Bool.not_false,cond_true,zd (by omega),zd (by omega)]
      rfl
end Go.AM
namespace Go.Proofs.YtonhplejlfnkoaaGreatDoor.textBack
open Go.ChangeShapes Go.WideShapes Go.ChangeAt Go.RowKit Go.AM
theorem j1 : laidOutB Tryz.prog = true:=by kernel_rfl
theorem own : ownKnob Tryz.prog.godebug = none:=by kernel_rfl
theorem goes : LawGoes Tryz.prog SI 8 [(.sl (.agg [.str,(.int .i64),(.sl (.agg [.bool,(.int .u64),(.int .i64)])),(.int .i64),(.sl (.agg [.str,.str])),(.int .i64)])),(.sl .u8),(.int .i64)]:=fun x hx w vals hI hr =>
  ok8 _ (x.1,x.2.1,x.2.2.1,()) true (zsz 10000000 (by omega) awake13M x.1 (fun m hm => (hx.1.2 m hm).2.2.1.2) (fun m hm => (hx.1.2 m hm).2.2.2.2.1.1) x.2.1 x.2.2.1) w (AllD w) vals (WOf.of hI) hr (fun b o h => h)
noncomputable def laidWorld (os : Os) : World:=laidOf Tryz.prog os [layTab 4 Rows.laid_math_bits_deBruijn32tab,layTab 5 Rows.laid_math_bits_deBruijn64tab,layTab 1 Rows.laid_internal_strconv_uint64pow10,layTab 3 Rows.laid_unicode_utf8_acceptRanges,layErr 7 295 297 Rows.laid_strconv_ErrRange,layErr 6 295 297 Rows.laid_strconv_ErrSyntax,layTab 2 Rows.laid_unicode_utf8_first]
theorem zv8 (os : Os) (args : Array Value) : laidMet Tryz.prog Rows.textBackRow.laid ((laidWorld os).forCall (fun _ _ => 0) ⟨#[],args,[]⟩).memory:=
  (LaidIn.of_run [4,5,1,3,7,6,2,(World.holding Tryz.prog os ⟨#[],#[],[]⟩).heap.size,(World.holding Tryz.prog os ⟨#[],#[],[]⟩).heap.size + 1] 8 (by kernel_rfl) (by kernel_rfl) (by kernel_rfl) (by kernel_rfl)).met
theorem zn0 (os : Os) {H : Type} (enc : TypeId × Value→H) :
    (OpenSpec.ofChange Rows.textBackSpec).preRow enc Tryz.prog Tryz.f8 Rows.textBackRow.domain false Rows.textBackRow.laid ((laidWorld os).forCall (fun _ _ => 0) ⟨#[],#[.slice none 0 0,.slice none 0 0,.int .i64 0],[]⟩).memory #[.slice none 0 0,.slice none 0 0,.int .i64 0]:=by
  have hw : (DataW.whole enc Tryz.prog ((laidWorld os).forCall (fun _ _ => 0) ⟨#[],#[.slice none 0 0,.slice none 0 0,.int .i64 0],[]⟩).memory Tryz.f8.params.toList Rows.textBackSpec.vars false (#[.slice none 0 0,.slice none 0 0,.int .i64 0] : Array Value).toList 8).map (fun x => (x.1,x.2.1)) =
      some ([.nil,.nil,.lit (.int .i64 0)],[]):=by kernel_rfl
  obtain ⟨⟨x1,x2,x3⟩,hx,hx1⟩:=Option.map_eq_some_iff.1 hw
  simp only [Prod.mk.injEq] at hx1
  obtain ⟨rfl,rfl⟩:=hx1
  exact OpenSpec.preRow_of_cond 8 hx (by kernel_rfl) (fun k hk => by cases hk) (by kernel_rfl) (zv8 os _)
set_option maxRecDepth 100000 in
theorem lifted (os : Os) (started : os.Started) (H : Type) (enc : TypeId × Value→H) (F : Stop.Interp) :
    ReturnsInHanded {} Tryz.checked os 8 .any ((OpenSpec.ofChange Rows.textBackSpec).preRow enc Tryz.prog Tryz.f8 Rows.textBackRow.domain false Rows.textBackRow.laid) (((OpenSpec.ofChange Rows.textBackSpec).at F).post enc Tryz.prog Tryz.f8 false true false false):=by
  refine returnsInHanded_of_row (C:=Tryz.checked) (s:=OpenSpec.ofChange Rows.textBackSpec) own started (by kernel_rfl) Tryz.func8
    (witness_row_atRef (enc:=enc) (C:=Tryz.checked) false (laidWorld os) #[.slice none 0 0,.slice none 0 0,.int .i64 0] rfl (by kernel_rfl) (by kernel_rfl) (by kernel_rfl) (zn0 os enc)) ?_
  intro W base args ds gs before hval hW _ _ hw hL hO _
  exact zrb (s:=Rows.textBackSpec) (n:=8) j1 Tryz.func8 (by kernel_rfl) (by decide) (by kernel_rfl) rfl Tryz.underlying4 rfl (fun ds h => by match ds,h with | [_,_,_],_ => rfl) goes hval hW hw ⟨hL,hO⟩
theorem j2 : mapsRowed Tryz.prog = true:=by kernel_rfl
theorem j3 : (Rows.textBackRow.inPlace == Tryz.prog.inPlace 8) = true:=by kernel_rfl
theorem j4 : (Rows.textBackRow.unfollowed == Tryz.prog.unfollowed 8) = true:=by kernel_rfl
theorem j5 : (Rows.textBackRow.recurses == Tryz.prog.recurses 8) = true:=by kernel_rfl
theorem j6 : (Rows.textBackRow.named == Tryz.prog.varsNamed 8) = true:=by kernel_rfl
theorem joined : joinedFacts Tryz.prog 8 Tryz.f8 (OpenSpec.ofChange Rows.textBackSpec).bare Rows.textBackRow = true:=by
  simp only [joinedFacts,Bool.and_eq_true]
  repeat' apply And.intro
  · kernel_rfl
  · exact j1
  · exact j2
  · kernel_rfl
  · kernel_rfl
  · kernel_rfl
  · kernel_rfl
  · kernel_rfl
  · kernel_rfl
  · exact j3
  · exact j4
  · exact j5
  · exact j6
  all_goals kernel_rfl
theorem said : Rows.TextBackSaid:=
  OpenClaim.holds_of_cond 8 Tryz.f8 rfl rfl rfl rfl rfl rfl rfl ⟨rfl,rfl,rfl,rfl,rfl⟩ rfl rfl rfl rfl rfl (by kernel_rfl) Tryz.func8 joined
    (of_decide_eq_true (by kernel_rfl)) (by unfold Func.isWrapper; first | (rw [if_pos (by decide +kernel)]; kernel_rfl) | (rw [if_neg (by decide +kernel)]; exact ⟨rfl,rfl⟩))
    (fun os started H enc _ F => by rw [OpenClaim.pre_eq_preRow]; exact lifted os started H enc F)
theorem plain (f : FuncId) (fn : Func) (hf : Tryz.pinned.checked.prog.funcNamed "forebay/forebaylaw13.TextBack" = some f) (hfn : Tryz.pinned.checked.prog.funcs[f]? = some fn) :
    true = Tryz.pinned.checked.prog.looks [] ∧ ∀ (j : Nat) t,fn.params[j]? = some t→Tryz.pinned.checked.prog.wantsStandIn t = false:=by
  obtain rfl : f = 8 := Option.some.inj ((show Tryz.prog.funcNamed "forebay/forebaylaw13.TextBack" = some 8 by kernel_rfl).symm.trans hf) |>.symm
  obtain rfl : fn = Tryz.f8:=(Option.some.inj (Tryz.func8.symm.trans hfn)).symm
  refine ⟨by kernel_rfl,fun j t ht => ?_⟩
  have hm : t ∈ ([24,22,3] : List TypeId):=by
    rw [Tryz.params8] at ht
    have:=Array.mem_of_getElem? ht
    simpa using this
  have all : ∀ x ∈ ([24,22,3] : List TypeId),Tryz.prog.wantsStandIn x = false:=fun x hx => by
    have h : ([24,22,3] : List TypeId).all (fun x => Tryz.prog.wantsStandIn x == false) = true:=by kernel_rfl
    simpa using List.all_eq_true.1 h x hx
  exact all t hm
theorem proved : Rows.TextBackCardSaid:=
  Claim7.holds_tied_plain_at .later [] _ _ _ _ said (fun _ h => by cases h) (by kernel_rfl) (fun _ h => by cases h) textBack_row_tie rfl ⟨rfl,rfl⟩ (by kernel_rfl) rfl plain (by kernel_rfl)
end Go.Proofs.YtonhplejlfnkoaaGreatDoor.textBack
